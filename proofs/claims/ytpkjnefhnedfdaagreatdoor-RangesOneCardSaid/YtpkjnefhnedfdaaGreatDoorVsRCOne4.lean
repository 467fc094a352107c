/- Nothing of a statement is proved in this text alone: it is part 4 of the proof's own tools, an evaluator of the code over deep values, its soundness, and what it makes of this seat's functions. Conditions: none beyond the statement's own. -/
import Derived.Test.YtpkjnefhnedfdaaGreatDoorVsRCOne3
set_option linter.unusedSimpArgs false
set_option linter.unusedVariables false
namespace Go.VS
open Go Go.Proofs
set_option maxHeartbeats 0
set_option linter.unusedSimpArgs false
set_option linter.unusedVariables false
theorem add_some {n m k : Nat} {lo hi : Int} (h : (n + 1) * k ≤ m) : (n + (zc lo hi).l.length) * k ≤ m := Nat.le_trans (Nat.mul_le_mul_right k (Nat.add_le_add_left (some1 lo hi) n)) h
theorem add_some' {n m : Nat} {lo hi : Int} (h : n + 1 ≤ m) : n + (zc lo hi).l.length ≤ m := Nat.le_trans (Nat.add_le_add_left (some1 lo hi) n) h
theorem one_some {m k : Nat} {lo hi : Int} (h : 1 * k ≤ m) : (zc lo hi).l.length * k ≤ m := Nat.le_trans (Nat.mul_le_mul_right k (some1 lo hi)) h
theorem one_some' {m : Nat} {lo hi : Int} (h : 1 ≤ m) : (zc lo hi).l.length ≤ m := Nat.le_trans (some1 lo hi) h

noncomputable def lp91_4 : Code := subC [1, 1, 1, 0, 1, 0, 0] (bodyC Tryz.f91)

def sd38 (r : GS S_Span) (i4 : Nat) (x4 : S_Span) (va4_0 : List S_Span) (va4_1 : Int) : St := ⟨28, [(9, I ((i4 + 1 : Nat) : Int)), (23, I ((i4 + 1 : Nat) : Int)), (4, I (w64 (x4.hi + 1))), (22, I (w64 (x4.hi + 1))), (21, I x4.hi), (20, .lref 1 0 2 1), (3, .lsl 0 0 va4_0.length 2 none), (19, .lsl 0 0 va4_0.length 2 none), (18, .sl ((zc va4_1 (w64 (x4.lo - 1))).nl) (((zc va4_1 (w64 (x4.lo - 1))).l).map S_Span.D) (zsl ((zc va4_1 (w64 (x4.lo - 1))).nl) 2) none), (17, I (w64 (x4.lo - 1))), (16, I x4.lo), (15, .lref 1 0 2 0), (14, I va4_1), (13, .lsl 0 0 va4_0.length 2 none), (6, .lref 1 0 2 0), (12, .agg [I x4.lo, I x4.hi]), (11, .ptr (.agg [I x4.lo, I x4.hi])), (10, B true), (3, .lsl 0 0 va4_0.length 2 none), (4, I va4_1), (7, .sl r.nl (r.l.map S_Span.D) (zsl r.nl 2) none), (8, I ((r.l.length : Nat) : Int)), (9, I ((i4 : Nat) : Int))], [(0, ⟨va4_0.map S_Span.D, 2, false⟩), (1, ⟨[.agg [I x4.lo, I x4.hi]], 2, false⟩)], 2, 0⟩

def sd39 (r : GS S_Span) (i4 : Nat) (x4 : S_Span) (va4_0 : List S_Span) (va4_1 : Int) : St := ⟨28, [(9, I ((i4 + 1 : Nat) : Int)), (23, I ((i4 + 1 : Nat) : Int)), (4, I (w64 (x4.hi + 1))), (22, I (w64 (x4.hi + 1))), (21, I x4.hi), (20, .lref 1 0 2 1), (3, .lsl 2 0 ((va4_0 ++ ((zc va4_1 (w64 (x4.lo - 1))).l)).length) 2 none), (19, .lsl 2 0 ((va4_0 ++ ((zc va4_1 (w64 (x4.lo - 1))).l)).length) 2 none), (18, .sl ((zc va4_1 (w64 (x4.lo - 1))).nl) (((zc va4_1 (w64 (x4.lo - 1))).l).map S_Span.D) (zsl ((zc va4_1 (w64 (x4.lo - 1))).nl) 2) none), (17, I (w64 (x4.lo - 1))), (16, I x4.lo), (15, .lref 1 0 2 0), (14, I va4_1), (13, .lsl 0 0 va4_0.length 2 none), (6, .lref 1 0 2 0), (12, .agg [I x4.lo, I x4.hi]), (11, .ptr (.agg [I x4.lo, I x4.hi])), (10, B true), (3, .lsl 0 0 va4_0.length 2 none), (4, I va4_1), (7, .sl r.nl (r.l.map S_Span.D) (zsl r.nl 2) none), (8, I ((r.l.length : Nat) : Int)), (9, I ((i4 : Nat) : Int))], [(1, ⟨[.agg [I x4.lo, I x4.hi]], 2, false⟩), (2, ⟨(va4_0 ++ ((zc va4_1 (w64 (x4.lo - 1))).l)).map S_Span.D, 2, false⟩)], 3, 0⟩

def sd40 (r : GS S_Span) (i4 : Nat) (x4 : S_Span) (v4_0 : Int) : St := ⟨28, [(9, I ((i4 + 1 : Nat) : Int)), (23, I ((i4 + 1 : Nat) : Int)), (4, I (w64 (x4.hi + 1))), (22, I (w64 (x4.hi + 1))), (21, I x4.hi), (20, .lref 0 0 2 1), (3, .lsl 1 0 (((zc v4_0 (w64 (x4.lo - 1))).l).length) 2 none), (19, .lsl 1 0 (((zc v4_0 (w64 (x4.lo - 1))).l).length) 2 none), (18, .sl ((zc v4_0 (w64 (x4.lo - 1))).nl) (((zc v4_0 (w64 (x4.lo - 1))).l).map S_Span.D) (zsl ((zc v4_0 (w64 (x4.lo - 1))).nl) 2) none), (17, I (w64 (x4.lo - 1))), (16, I x4.lo), (15, .lref 0 0 2 0), (14, I v4_0), (13, .sl true [] 0 none), (6, .lref 0 0 2 0), (12, .agg [I x4.lo, I x4.hi]), (11, .ptr (.agg [I x4.lo, I x4.hi])), (10, B true), (3, .sl true [] 0 none), (4, I v4_0), (7, .sl r.nl (r.l.map S_Span.D) (zsl r.nl 2) none), (8, I ((r.l.length : Nat) : Int)), (9, I ((i4 : Nat) : Int))], [(0, ⟨[.agg [I x4.lo, I x4.hi]], 2, false⟩), (1, ⟨((zc v4_0 (w64 (x4.lo - 1))).l).map S_Span.D, 2, false⟩)], 2, 0⟩

inductive LR_ranges_outside_4 where
  | x0 (va4_0 : List S_Span) (va4_1 : Int)
  | x1 (v4_0 : Int)
instance : Inhabited LR_ranges_outside_4 := ⟨.x0 default default⟩
def zH : List S_Span → (List S_Span) → Int → LR_ranges_outside_4
  | [], va4_0, va4_1 => .x0 va4_0 va4_1
  | x4 :: rest4, va4_0, va4_1 =>
    bif ((zc va4_1 (w64 (x4.lo - 1))).l).isEmpty then
      zH rest4 va4_0 (w64 (x4.hi + 1))
    else
      zH rest4 (va4_0 ++ ((zc va4_1 (w64 (x4.lo - 1))).l)) (w64 (x4.hi + 1))
def zN : List S_Span → Int → LR_ranges_outside_4
  | [], v4_0 => .x1 v4_0
  | x4 :: rest4, v4_0 =>
    bif ((zc v4_0 (w64 (x4.lo - 1))).l).isEmpty then
      zN rest4 (w64 (x4.hi + 1))
    else
      zH rest4 ((zc v4_0 (w64 (x4.lo - 1))).l) (w64 (x4.hi + 1))
def lr_ranges_outside_4 (r : GS S_Span) : LR_ranges_outside_4 → Exit × St
  | .x0 va4_0 va4_1 => ((.exit 0), ⟨28, [(10, B false), (3, .lsl 0 0 va4_0.length 2 none), (4, I va4_1), (7, .sl r.nl (r.l.map S_Span.D) (zsl r.nl 2) none), (8, I ((r.l.length : Nat) : Int)), (9, I ((r.l.length : Nat) : Int))], [(0, ⟨va4_0.map S_Span.D, 2, false⟩)], 1, 0⟩)
  | .x1 v4_0 => ((.exit 0), ⟨28, [(10, B false), (3, .sl true [] 0 none), (4, I v4_0), (7, .sl r.nl (r.l.map S_Span.D) (zsl r.nl 2) none), (8, I ((r.l.length : Nat) : Int)), (9, I ((r.l.length : Nat) : Int))], [], 0, 0⟩)
def iv_ranges_outside_4 (r : GS S_Span) : LR_ranges_outside_4 → Prop
  | .x0 va4_0 va4_1 => (va4_0.length ≤ r.l.length)
  | .x1 v4_0 => True
theorem lp_ranges_outside_4a (r : GS S_Span) : ∀ (rest4 : List S_Span) (i4 : Nat) (va4_0 : List S_Span) (va4_1 : Int) (hd4 : r.l.drop i4 = rest4) (hi4 : i4 ≤ r.l.length) (hg4_va4_0 : va4_0.length ≤ i4) (hL4 : r.l.length ≤ 1099511627776), (lim cfg).loop 91 lp91_4 ⟨28, [(3, .lsl 0 0 va4_0.length 2 none), (4, I va4_1), (7, .sl r.nl (r.l.map S_Span.D) (zsl r.nl 2) none), (8, I ((r.l.length : Nat) : Int)), (9, I ((i4 : Nat) : Int))], [(0, ⟨va4_0.map S_Span.D, 2, false⟩)], 1, 0⟩ = some (lr_ranges_outside_4 r (zH rest4 va4_0 va4_1)) := by
  intro rest4
  induction rest4 with
  | nil =>
    intro i4 va4_0 va4_1 hd4 hi4 hg4_va4_0 hL4
    unfold zH
    obtain rfl : i4 = r.l.length := nil_eq hd4 hi4
    exact zF [.dec false] (And.intro (lt_no hd4) trivial) (by kernel_rfl)
  | cons x4 rest4 ih =>
    intro i4 va4_0 va4_1 hd4 hi4 hg4_va4_0 hL4
    have hlt4 := ze hd4
    have hlx := some1 va4_1 (w64 (x4.lo - 1))
    unfold zH
    cases h3 : ((zc va4_1 (w64 (x4.lo - 1))).l).isEmpty with
    | true =>
      exact po_turn' (ks := [3, 4, 7, 8, 9]) (st' := (sd38 r i4 x4 va4_0 va4_1)) [.dec true, .el (.agg [I x4.lo, I x4.hi]), .pure (.sl ((zc va4_1 (w64 (x4.lo - 1))).nl) (((zc va4_1 (w64 (x4.lo - 1))).l).map S_Span.D) (zsl ((zc va4_1 (w64 (x4.lo - 1))).nl) 2) none), .op (some 19) ⟨.lsl 0 0 va4_0.length 2 none, [], [], 2⟩, .rw 23 (I ((i4 + 1 : Nat) : Int))] (And.intro (inc_rw (i := i4) (by have := ze hd4; omega)) (And.intro (app_none (te := ty25) (gO := zr [(0, ⟨va4_0.map S_Span.D, 2, false⟩), (1, ⟨[.agg [I x4.lo, I x4.hi]], 2, false⟩)]) (nxt := 2) (f := S_Span.D) (sz := 2) (d := .lsl 0 0 va4_0.length 2 none) (zc va4_1 (w64 (x4.lo - 1))) h3 rfl) (And.intro (T_ranges_some va4_1 (w64 (x4.lo - 1))) (And.intro (el_at (s := r) (f := S_Span.D) (k := 2) hd4) (And.intro (lt_at hd4) trivial))))) (by kernel_rfl) (by (simp only [sd38, go_sem, List.length_set, Nat.reduceAdd, Nat.reduceEqDiff, Nat.reduceLT, Nat.reduceLeDiff, bI2, zl.idsL, zl.renL, zl.snapAll, z8.idsL, z8.renL, z8.snapAll]) <;> rfl) (ih (i4 + 1) va4_0 (w64 (x4.hi + 1)) (zg hd4) (ze hd4) (by omega) (by omega)) (by kernel_rfl)
    | false =>
      exact po_turn' (ks := [3, 4, 7, 8, 9]) (st' := (sd39 r i4 x4 va4_0 va4_1)) [.dec true, .el (.agg [I x4.lo, I x4.hi]), .pure (.sl ((zc va4_1 (w64 (x4.lo - 1))).nl) (((zc va4_1 (w64 (x4.lo - 1))).l).map S_Span.D) (zsl ((zc va4_1 (w64 (x4.lo - 1))).nl) 2) none), .op (some 19) ⟨.lsl 2 0 ((va4_0 ++ ((zc va4_1 (w64 (x4.lo - 1))).l)).length) 2 none, [(0, none), (2, some ⟨(va4_0 ++ ((zc va4_1 (w64 (x4.lo - 1))).l)).map S_Span.D, 2, false⟩)], [0], 3⟩, .rw 23 (I ((i4 + 1 : Nat) : Int))] (And.intro (inc_rw (i := i4) (by have := ze hd4; omega)) (And.intro (app_moreD (te := ty25) (gO := zr [(0, ⟨va4_0.map S_Span.D, 2, false⟩), (1, ⟨[.agg [I x4.lo, I x4.hi]], 2, false⟩)]) (nxt := 2) (o := 0) (v := va4_0) z8 (zc va4_1 (w64 (x4.lo - 1))) h3 (by kernel_rfl) rfl (by kernel_rfl) (by decide) ⟨by simp only [ty25, big] <;> (first | assumption | omega | (exact two_bd (by omega) (by omega)) | (exact add_some (by omega)) | (exact add_some' (by omega)) | (exact one_some (by omega)) | (exact one_some' (by omega)) | (simp only [zm] at * <;> omega) | (simp only [srtL, GS.some_l, List.length_set, List.length_append, List.length_cons, List.length_nil] at * <;> first | with_reducible assumption | omega) | (simp only [srtL, GS.some_l, List.length_set, List.length_append, List.length_cons, List.length_nil, zm] at * <;> first | with_reducible assumption | omega) | (simp at * <;> omega)), by simp only [big] <;> (first | assumption | omega | (exact two_bd (by omega) (by omega)) | (exact add_some (by omega)) | (exact add_some' (by omega)) | (exact one_some (by omega)) | (exact one_some' (by omega)) | (simp only [zm] at * <;> omega) | (simp only [srtL, GS.some_l, List.length_set, List.length_append, List.length_cons, List.length_nil] at * <;> first | with_reducible assumption | omega) | (simp only [srtL, GS.some_l, List.length_set, List.length_append, List.length_cons, List.length_nil, zm] at * <;> first | with_reducible assumption | omega) | (simp at * <;> omega))⟩) (And.intro (T_ranges_some va4_1 (w64 (x4.lo - 1))) (And.intro (el_at (s := r) (f := S_Span.D) (k := 2) hd4) (And.intro (lt_at hd4) trivial))))) (by kernel_rfl) (by (simp only [sd39, go_sem, List.length_set, Nat.reduceAdd, Nat.reduceEqDiff, Nat.reduceLT, Nat.reduceLeDiff, bI2, zl.idsL, zl.renL, zl.snapAll, z8.idsL, z8.renL, z8.snapAll]) <;> rfl) (ih (i4 + 1) (va4_0 ++ ((zc va4_1 (w64 (x4.lo - 1))).l)) (w64 (x4.hi + 1)) (zg hd4) (ze hd4) (by simp only [List.length_append, List.length_cons, List.length_nil] at * <;> omega) (by omega)) (by kernel_rfl)
theorem ivt_ranges_outside_4a (r : GS S_Span) : ∀ (rest4 : List S_Span) (i4 : Nat) (va4_0 : List S_Span) (va4_1 : Int) (hd4 : r.l.drop i4 = rest4) (hi4 : i4 ≤ r.l.length) (hg4_va4_0 : va4_0.length ≤ i4) (hL4 : r.l.length ≤ 1099511627776), iv_ranges_outside_4 r (zH rest4 va4_0 va4_1) := by
  intro rest4
  induction rest4 with
  | nil =>
    intro i4 va4_0 va4_1 hd4 hi4 hg4_va4_0 hL4
    unfold zH
    obtain rfl : i4 = r.l.length := nil_eq hd4 hi4
    exact hg4_va4_0
  | cons x4 rest4 ih =>
    intro i4 va4_0 va4_1 hd4 hi4 hg4_va4_0 hL4
    have hlt4 := ze hd4
    have hlx := some1 va4_1 (w64 (x4.lo - 1))
    unfold zH
    cases h3 : ((zc va4_1 (w64 (x4.lo - 1))).l).isEmpty with
    | true =>
      exact ih (i4 + 1) va4_0 (w64 (x4.hi + 1)) (zg hd4) (ze hd4) (by omega) (by omega)
    | false =>
      exact ih (i4 + 1) (va4_0 ++ ((zc va4_1 (w64 (x4.lo - 1))).l)) (w64 (x4.hi + 1)) (zg hd4) (ze hd4) (by simp only [List.length_append, List.length_cons, List.length_nil] at * <;> omega) (by omega)
theorem lp_ranges_outside_4 (r : GS S_Span) : ∀ (rest4 : List S_Span) (i4 : Nat) (v4_0 : Int) (hd4 : r.l.drop i4 = rest4) (hi4 : i4 ≤ r.l.length) (hL4 : r.l.length ≤ 1099511627776), (lim cfg).loop 91 lp91_4 ⟨28, [(3, .sl true [] 0 none), (4, I v4_0), (7, .sl r.nl (r.l.map S_Span.D) (zsl r.nl 2) none), (8, I ((r.l.length : Nat) : Int)), (9, I ((i4 : Nat) : Int))], [], 0, 0⟩ = some (lr_ranges_outside_4 r (zN rest4 v4_0)) := by
  intro rest4
  induction rest4 with
  | nil =>
    intro i4 v4_0 hd4 hi4 hL4
    unfold zN
    obtain rfl : i4 = r.l.length := nil_eq hd4 hi4
    exact zF [.dec false] (And.intro (lt_no hd4) trivial) (by kernel_rfl)
  | cons x4 rest4 ih =>
    intro i4 v4_0 hd4 hi4 hL4
    have hlt4 := ze hd4
    have hlx := some1 v4_0 (w64 (x4.lo - 1))
    unfold zN
    cases h4 : ((zc v4_0 (w64 (x4.lo - 1))).l).isEmpty with
    | true =>
      exact po_turn [.dec true, .el (.agg [I x4.lo, I x4.hi]), .pure (.sl ((zc v4_0 (w64 (x4.lo - 1))).nl) (((zc v4_0 (w64 (x4.lo - 1))).l).map S_Span.D) (zsl ((zc v4_0 (w64 (x4.lo - 1))).nl) 2) none), .op (some 19) ⟨.sl true [] 0 none, [], [], 1⟩, .rw 23 (I ((i4 + 1 : Nat) : Int))] (And.intro (inc_rw (i := i4) (by have := ze hd4; omega)) (And.intro (app_none (te := ty25) (gO := zr [(0, ⟨[.agg [I x4.lo, I x4.hi]], 2, false⟩)]) (nxt := 1) (f := S_Span.D) (sz := 2) (d := .sl true [] 0 none) (zc v4_0 (w64 (x4.lo - 1))) h4 rfl) (And.intro (T_ranges_some v4_0 (w64 (x4.lo - 1))) (And.intro (el_at (s := r) (f := S_Span.D) (k := 2) hd4) (And.intro (lt_at hd4) trivial))))) (ih (i4 + 1) (w64 (x4.hi + 1)) (zg hd4) (ze hd4) (by omega)) (by kernel_rfl)
    | false =>
      exact po_turn' (ks := [3, 4, 7, 8, 9]) (st' := (sd40 r i4 x4 v4_0)) [.dec true, .el (.agg [I x4.lo, I x4.hi]), .pure (.sl ((zc v4_0 (w64 (x4.lo - 1))).nl) (((zc v4_0 (w64 (x4.lo - 1))).l).map S_Span.D) (zsl ((zc v4_0 (w64 (x4.lo - 1))).nl) 2) none), .op (some 19) ⟨.lsl 1 0 (((zc v4_0 (w64 (x4.lo - 1))).l).length) 2 none, [(1, some ⟨((zc v4_0 (w64 (x4.lo - 1))).l).map S_Span.D, 2, false⟩)], [], 2⟩, .rw 23 (I ((i4 + 1 : Nat) : Int))] (And.intro (inc_rw (i := i4) (by have := ze hd4; omega)) (And.intro (app_newD (te := ty25) (gO := zr [(0, ⟨[.agg [I x4.lo, I x4.hi]], 2, false⟩)]) (nxt := 1) (els0 := []) (sz0 := 0) (cap0 := none) z8 (zc v4_0 (w64 (x4.lo - 1))) h4 rfl (by kernel_rfl) (by decide) ⟨by simp only [ty25, big] <;> (first | assumption | omega | (exact two_bd (by omega) (by omega)) | (exact add_some (by omega)) | (exact add_some' (by omega)) | (exact one_some (by omega)) | (exact one_some' (by omega)) | (simp only [zm] at * <;> omega) | (simp only [srtL, GS.some_l, List.length_set, List.length_append, List.length_cons, List.length_nil] at * <;> first | with_reducible assumption | omega) | (simp only [srtL, GS.some_l, List.length_set, List.length_append, List.length_cons, List.length_nil, zm] at * <;> first | with_reducible assumption | omega) | (simp at * <;> omega)), by simp only [big] <;> (first | assumption | omega | (exact two_bd (by omega) (by omega)) | (exact add_some (by omega)) | (exact add_some' (by omega)) | (exact one_some (by omega)) | (exact one_some' (by omega)) | (simp only [zm] at * <;> omega) | (simp only [srtL, GS.some_l, List.length_set, List.length_append, List.length_cons, List.length_nil] at * <;> first | with_reducible assumption | omega) | (simp only [srtL, GS.some_l, List.length_set, List.length_append, List.length_cons, List.length_nil, zm] at * <;> first | with_reducible assumption | omega) | (simp at * <;> omega))⟩) (And.intro (T_ranges_some v4_0 (w64 (x4.lo - 1))) (And.intro (el_at (s := r) (f := S_Span.D) (k := 2) hd4) (And.intro (lt_at hd4) trivial))))) (by kernel_rfl) (by (simp only [sd40, go_sem, List.length_set, Nat.reduceAdd, Nat.reduceEqDiff, Nat.reduceLT, Nat.reduceLeDiff, bI2, zl.idsL, zl.renL, zl.snapAll, z8.idsL, z8.renL, z8.snapAll]) <;> rfl) (lp_ranges_outside_4a r _ (i4 + 1) ((zc v4_0 (w64 (x4.lo - 1))).l) (w64 (x4.hi + 1)) (zg hd4) (ze hd4) (by omega) (by omega)) (by kernel_rfl)
theorem ivt_ranges_outside_4 (r : GS S_Span) : ∀ (rest4 : List S_Span) (i4 : Nat) (v4_0 : Int) (hd4 : r.l.drop i4 = rest4) (hi4 : i4 ≤ r.l.length) (hL4 : r.l.length ≤ 1099511627776), iv_ranges_outside_4 r (zN rest4 v4_0) := by
  intro rest4
  induction rest4 with
  | nil =>
    intro i4 v4_0 hd4 hi4 hL4
    unfold zN
    obtain rfl : i4 = r.l.length := nil_eq hd4 hi4
    exact trivial
  | cons x4 rest4 ih =>
    intro i4 v4_0 hd4 hi4 hL4
    have hlt4 := ze hd4
    have hlx := some1 v4_0 (w64 (x4.lo - 1))
    unfold zN
    cases h4 : ((zc v4_0 (w64 (x4.lo - 1))).l).isEmpty with
    | true =>
      exact ih (i4 + 1) (w64 (x4.hi + 1)) (zg hd4) (ze hd4) (by omega)
    | false =>
      exact ivt_ranges_outside_4a r _ (i4 + 1) ((zc v4_0 (w64 (x4.lo - 1))).l) (w64 (x4.hi + 1)) (zg hd4) (ze hd4) (by omega) (by omega)

def za (r : GS S_Span) : (GS S_Span) :=
  match zN r.l (-1099511627776) with
  | .x0 va4_0 va4_1 =>
    bif ((zc va4_1 1099511627776).l).isEmpty then
      GS.some va4_0
    else
      GS.some (va4_0 ++ ((zc va4_1 1099511627776).l))
  | .x1 v4_0 =>
    bif ((zc v4_0 1099511627776).l).isEmpty then
      GS.nil
    else
      GS.some ((zc v4_0 1099511627776).l)

def sd41 (r : GS S_Span) (va4_0 : List S_Span) (va4_1 : Int) : St := ⟨28, [(10, B false), (3, .lsl 0 0 va4_0.length 2 none), (4, I va4_1), (7, .sl r.nl (r.l.map S_Span.D) (zsl r.nl 2) none), (8, I ((r.l.length : Nat) : Int)), (9, I ((r.l.length : Nat) : Int))], [(0, ⟨va4_0.map S_Span.D, 2, false⟩)], 1, 0⟩

def ranges_outside_o1 (r : GS S_Span) (va4_0 : List S_Span) (va4_1 : Int) : List Ora := [.rw 8 (I ((r.l.length : Nat) : Int)), .loop (.exit 0) (sd41 r va4_0 va4_1), .pure (.sl ((zc va4_1 1099511627776).nl) (((zc va4_1 1099511627776).l).map S_Span.D) (zsl ((zc va4_1 1099511627776).nl) 2) none)]

def sd42 (r : GS S_Span) (v4_0 : Int) : St := ⟨28, [(10, B false), (3, .sl true [] 0 none), (4, I v4_0), (7, .sl r.nl (r.l.map S_Span.D) (zsl r.nl 2) none), (8, I ((r.l.length : Nat) : Int)), (9, I ((r.l.length : Nat) : Int))], [], 0, 0⟩

def ranges_outside_o2 (r : GS S_Span) (v4_0 : Int) : List Ora := [.rw 8 (I ((r.l.length : Nat) : Int)), .loop (.exit 0) (sd42 r v4_0), .pure (.sl ((zc v4_0 1099511627776).nl) (((zc v4_0 1099511627776).l).map S_Span.D) (zsl ((zc v4_0 1099511627776).nl) 2) none)]

theorem T_ranges_outside (r : GS S_Span) (hr64 : r.l.length ≤ 64) (hL_r : r.l.length ≤ 1099511627776) : (lim cfg).pure 91 [GS.D S_Span.D 2 r] = some (GS.D S_Span.D 2 (za r)) := by
  unfold za
  cases h5 : zN r.l (-1099511627776) with
  | x0 va4_0 va4_1 =>
    try dsimp only
    have hv_h5 := ivt_ranges_outside_4 r r.l 0 (-1099511627776) (List.drop_zero) (Nat.zero_le _) (by omega)
    rw [h5] at hv_h5
    have hv_h5_0 := hv_h5
    try dsimp only [iv_ranges_outside_4] at hv_h5_0
    have p1 := (po_lr (q := lr_ranges_outside_4 r) (lp_ranges_outside_4 r r.l 0 (-1099511627776) (List.drop_zero) (Nat.zero_le _) (by omega)) h5)
    cases h6 : ((zc va4_1 1099511627776).l).isEmpty with
    | true =>
      exact po_pureS ((ranges_outside_o1 r va4_0 va4_1) ++ [.op (some 27) ⟨.lsl 0 0 va4_0.length 2 none, [], [], 1⟩]) [(0, .sl false (va4_0.map S_Span.D) 2 none, [0])] (And.intro (snap_row (gO := zr [(0, ⟨va4_0.map S_Span.D, 2, false⟩)]) (o := 0) (len := va4_0.length) (cap := none) (fz := false) z8 va4_0 (by kernel_rfl) (by omega)) (And.intro (app_none (te := ty25) (gO := zr [(0, ⟨va4_0.map S_Span.D, 2, false⟩)]) (nxt := 1) (f := S_Span.D) (sz := 2) (d := .lsl 0 0 va4_0.length 2 none) (zc va4_1 1099511627776) h6 rfl) (And.intro (T_ranges_some va4_1 1099511627776) (And.intro p1 (And.intro (zh S_Span.D r) trivial))))) (by kernel_rfl)
    | false =>
      exact po_pureS ((ranges_outside_o1 r va4_0 va4_1) ++ [.op (some 27) ⟨.lsl 1 0 ((va4_0 ++ ((zc va4_1 1099511627776).l)).length) 2 none, [(0, none), (1, some ⟨(va4_0 ++ ((zc va4_1 1099511627776).l)).map S_Span.D, 2, false⟩)], [0], 2⟩]) [(1, .sl false ((va4_0 ++ ((zc va4_1 1099511627776).l)).map S_Span.D) 2 none, [1])] (And.intro (snap_row (gO := zr [(1, ⟨(va4_0 ++ ((zc va4_1 1099511627776).l)).map S_Span.D, 2, false⟩)]) (o := 1) (len := (va4_0 ++ ((zc va4_1 1099511627776).l)).length) (cap := none) (fz := false) z8 (va4_0 ++ ((zc va4_1 1099511627776).l)) (by kernel_rfl) (by omega)) (And.intro (app_moreD (te := ty25) (gO := zr [(0, ⟨va4_0.map S_Span.D, 2, false⟩)]) (nxt := 1) (o := 0) (v := va4_0) z8 (zc va4_1 1099511627776) h6 (by kernel_rfl) rfl (by kernel_rfl) (by decide) ⟨by simp only [ty25, big] <;> (first | assumption | omega | (exact two_bd (by omega) (by omega)) | (exact add_some (by omega)) | (exact add_some' (by omega)) | (exact one_some (by omega)) | (exact one_some' (by omega)) | (simp only [zm] at * <;> omega) | (simp only [srtL, GS.some_l, List.length_set, List.length_append, List.length_cons, List.length_nil] at * <;> first | with_reducible assumption | omega) | (simp only [srtL, GS.some_l, List.length_set, List.length_append, List.length_cons, List.length_nil, zm] at * <;> first | with_reducible assumption | omega) | (simp at * <;> omega)), by simp only [big] <;> (first | assumption | omega | (exact two_bd (by omega) (by omega)) | (exact add_some (by omega)) | (exact add_some' (by omega)) | (exact one_some (by omega)) | (exact one_some' (by omega)) | (simp only [zm] at * <;> omega) | (simp only [srtL, GS.some_l, List.length_set, List.length_append, List.length_cons, List.length_nil] at * <;> first | with_reducible assumption | omega) | (simp only [srtL, GS.some_l, List.length_set, List.length_append, List.length_cons, List.length_nil, zm] at * <;> first | with_reducible assumption | omega) | (simp at * <;> omega))⟩) (And.intro (T_ranges_some va4_1 1099511627776) (And.intro p1 (And.intro (zh S_Span.D r) trivial))))) (by kernel_rfl)
  | x1 v4_0 =>
    try dsimp only
    have p2 := (po_lr (q := lr_ranges_outside_4 r) (lp_ranges_outside_4 r r.l 0 (-1099511627776) (List.drop_zero) (Nat.zero_le _) (by omega)) h5)
    cases h7 : ((zc v4_0 1099511627776).l).isEmpty with
    | true =>
      exact zj ((ranges_outside_o2 r v4_0) ++ [.op (some 27) ⟨.sl true [] 0 none, [], [], 0⟩]) (And.intro (app_none (te := ty25) (gO := zr []) (nxt := 0) (f := S_Span.D) (sz := 2) (d := .sl true [] 0 none) (zc v4_0 1099511627776) h7 rfl) (And.intro (T_ranges_some v4_0 1099511627776) (And.intro p2 (And.intro (zh S_Span.D r) trivial)))) (by kernel_rfl)
    | false =>
      exact po_pureS ((ranges_outside_o2 r v4_0) ++ [.op (some 27) ⟨.lsl 0 0 (((zc v4_0 1099511627776).l).length) 2 none, [(0, some ⟨((zc v4_0 1099511627776).l).map S_Span.D, 2, false⟩)], [], 1⟩]) [(0, .sl false (((zc v4_0 1099511627776).l).map S_Span.D) 2 none, [0])] (And.intro (snap_row (gO := zr [(0, ⟨((zc v4_0 1099511627776).l).map S_Span.D, 2, false⟩)]) (o := 0) (len := ((zc v4_0 1099511627776).l).length) (cap := none) (fz := false) z8 ((zc v4_0 1099511627776).l) (by kernel_rfl) (by omega)) (And.intro (app_newD (te := ty25) (gO := zr []) (nxt := 0) (els0 := []) (sz0 := 0) (cap0 := none) z8 (zc v4_0 1099511627776) h7 rfl (by kernel_rfl) (by decide) ⟨by simp only [ty25, big] <;> (first | assumption | omega | (exact two_bd (by omega) (by omega)) | (exact add_some (by omega)) | (exact add_some' (by omega)) | (exact one_some (by omega)) | (exact one_some' (by omega)) | (simp only [zm] at * <;> omega) | (simp only [srtL, GS.some_l, List.length_set, List.length_append, List.length_cons, List.length_nil] at * <;> first | with_reducible assumption | omega) | (simp only [srtL, GS.some_l, List.length_set, List.length_append, List.length_cons, List.length_nil, zm] at * <;> first | with_reducible assumption | omega) | (simp at * <;> omega)), by simp only [big] <;> (first | assumption | omega | (exact two_bd (by omega) (by omega)) | (exact add_some (by omega)) | (exact add_some' (by omega)) | (exact one_some (by omega)) | (exact one_some' (by omega)) | (simp only [zm] at * <;> omega) | (simp only [srtL, GS.some_l, List.length_set, List.length_append, List.length_cons, List.length_nil] at * <;> first | with_reducible assumption | omega) | (simp only [srtL, GS.some_l, List.length_set, List.length_append, List.length_cons, List.length_nil, zm] at * <;> first | with_reducible assumption | omega) | (simp at * <;> omega))⟩) (And.intro (T_ranges_some v4_0 1099511627776) (And.intro p2 (And.intro (zh S_Span.D r) trivial))))) (by kernel_rfl)
end Go.VS

namespace Go.VS
open Go Go.Proofs
set_option maxHeartbeats 0
set_option linter.unusedSimpArgs false
set_option linter.unusedVariables false
noncomputable def lp87_6 : Code := subC [1, 0, 1, 1, 0, 1, 0, 0, 1, 1, 0, 0, 1, 1, 0, 0] (bodyC Tryz.f87)

noncomputable def lp87_3 : Code := subC [1, 0, 1, 1, 0, 1, 0, 0] (bodyC Tryz.f87)

inductive LR_ranges_gathered_4p1 where
  | x0 (va4p1_0 : List S_Span)
  | x1 (i4p1 : Nat) (x4p1 : S_Span) (va4p1_0 : List S_Span)
  | x2 (i4p1 : Nat) (x4p1 : S_Span) (va4p1_0 : List S_Span)
  | x3
  | x4 (i4p1 : Nat) (x4p1 : S_Span)
  | x5 (i4p1 : Nat) (x4p1 : S_Span)
instance : Inhabited LR_ranges_gathered_4p1 := ⟨.x0 default⟩
def ranges_gathered_4p1a : List S_Span → Nat → (List S_Span) → LR_ranges_gathered_4p1
  | [], i4p1, va4p1_0 => .x0 va4p1_0
  | x4p1 :: rest4p1, i4p1, va4p1_0 =>
    bif (zp x4p1.lo) then
      bif (zp x4p1.hi) then
        bif decide (((va4p1_0.length : Nat) : Int) > 0) then
          bif decide (x4p1.lo ≤ (w64 (((va4p1_0.getD ((w64 (((va4p1_0.length : Nat) : Int) - 1)).toNat) default).hi) + 1))) then
            ranges_gathered_4p1a rest4p1 (i4p1 + 1) (va4p1_0.set ((w64 (((va4p1_0.length : Nat) : Int) - 1)).toNat) (⟨(va4p1_0.getD ((w64 (((va4p1_0.length : Nat) : Int) - 1)).toNat) default).lo, imax ((va4p1_0.getD ((w64 (((va4p1_0.length : Nat) : Int) - 1)).toNat) default).hi) x4p1.hi⟩ : S_Span))
          else
            ranges_gathered_4p1a rest4p1 (i4p1 + 1) (va4p1_0 ++ [x4p1])
        else
          ranges_gathered_4p1a rest4p1 (i4p1 + 1) (va4p1_0 ++ [x4p1])
      else
        .x1 i4p1 x4p1 va4p1_0
    else
      .x2 i4p1 x4p1 va4p1_0
def ranges_gathered_4p1 : List S_Span → Nat → LR_ranges_gathered_4p1
  | [], i4p1 => .x3
  | x4p1 :: rest4p1, i4p1 =>
    bif (zp x4p1.lo) then
      bif (zp x4p1.hi) then
        ranges_gathered_4p1a rest4p1 (i4p1 + 1) [x4p1]
      else
        .x4 i4p1 x4p1
    else
      .x5 i4p1 x4p1
end Go.VS

namespace Go.VS
open Go Go.Proofs
set_option maxHeartbeats 0
set_option linter.unusedSimpArgs false
set_option linter.unusedVariables false
end Go.VS

/-
  Ranges: what lies outside. (A text of this claim's own; nothing of it is trusted.)
-/
namespace Go.VS
open Go
set_option maxHeartbeats 0
theorem some_l (lo hi : Int) : (zc lo hi).l = someS lo hi := by
  unfold zc someS
  by_cases h : lo > hi
  · rw [decide_eq_true h, if_pos h]; rfl
  · rw [decide_eq_false h, if_neg h]; rfl
theorem emp_app {α : Type} {v l : List α} {β : Type} (f : List α → β) : (bif l.isEmpty then f v else f (v ++ l)) = f (v ++ l) := by
  cases l <;> simp
theorem out4a_len : ∀ (l v : List S_Span) (f : Int), ∃ v' f', zH l v f = .x0 v' f' ∧ v'.length ≤ v.length + l.length
  | [], v, f => ⟨v, f, rfl, Nat.le_refl _⟩
  | x :: l, v, f => by
    unfold zH
    rw [emp_app (fun z => zH l z (w64 (x.hi + 1)))]
    obtain ⟨v', f', e, h⟩ := out4a_len l (v ++ (zc f (w64 (x.lo - 1))).l) (w64 (x.hi + 1))
    refine ⟨v', f', e, ?_⟩
    have := some1 f (w64 (x.lo - 1))
    simp only [List.length_append, List.length_cons] at h ⊢
    omega
theorem out4_len : ∀ (l : List S_Span) (f : Int), (∃ v' f', zN l f = .x0 v' f' ∧ v'.length ≤ l.length) ∨ ∃ f', zN l f = .x1 f'
  | [], f => .inr ⟨f, rfl⟩
  | x :: l, f => by
    unfold zN
    cases he : ((zc f (w64 (x.lo - 1))).l).isEmpty with
    | true =>
      rcases out4_len l (w64 (x.hi + 1)) with ⟨v', f', e, h⟩ | ⟨f', e⟩
      · exact .inl ⟨v', f', e, by simp only [List.length_cons]; omega⟩
      · exact .inr ⟨f', e⟩
    | false =>
      obtain ⟨v', f', e, h⟩ := out4a_len l ((zc f (w64 (x.lo - 1))).l) (w64 (x.hi + 1))
      have := some1 f (w64 (x.lo - 1))
      exact .inl ⟨v', f', e, by simp only [List.length_cons]; omega⟩
theorem outsideLen (r : GS S_Span) (h : r.l.length ≤ 64) : (za r).l.length ≤ 65 := by
  unfold za
  rcases out4_len r.l (-1099511627776) with ⟨v', f', e, h'⟩ | ⟨f', e⟩ <;> rw [e] <;> dsimp only
  · have := some1 f' 1099511627776
    cases ((zc f' 1099511627776).l).isEmpty <;> simp [GS.some] <;> omega
  · have := some1 f' 1099511627776
    cases ((zc f' 1099511627776).l).isEmpty <;> simp [GS.some, GS.nil] <;> omega
theorem out4a_eq : ∀ (l v : List S_Span) (f : Int), bd l → ∃ v' f', zH l v f = .x0 v' f' ∧ v' ++ someS f' 1099511627776 = v ++ outS f l
  | [], v, f, _ => ⟨v, f, rfl, rfl⟩
  | x :: l, v, f, h => by
    have hx := h x List.mem_cons_self
    unfold zH
    rw [emp_app (fun z => zH l z (w64 (x.hi + 1))), w64_eq (by omega) (by omega), w64_eq (by omega) (by omega), some_l]
    obtain ⟨v', f', e, k⟩ := out4a_eq l (v ++ someS f (x.lo - 1)) (x.hi + 1) (fun t ht => h t (List.mem_cons_of_mem _ ht))
    exact ⟨v', f', e, by rw [k, List.append_assoc]; rfl⟩
theorem out4_eq : ∀ (l : List S_Span) (f : Int), bd l → (∃ v' f', zN l f = .x0 v' f' ∧ v' ++ someS f' 1099511627776 = outS f l) ∨ ∃ f', zN l f = .x1 f' ∧ someS f' 1099511627776 = outS f l
  | [], f, _ => .inr ⟨f, rfl, rfl⟩
  | x :: l, f, h => by
    have hx := h x List.mem_cons_self
    have h' := fun t ht => h t (List.mem_cons_of_mem _ ht)
    unfold zN
    rw [w64_eq (by omega) (by omega), w64_eq (by omega) (by omega), some_l]
    cases he : (someS f (x.lo - 1)).isEmpty with
    | true =>
      have e0 : someS f (x.lo - 1) = [] := by simpa using he
      have e1 : outS f (x :: l) = outS (x.hi + 1) l := by
        show someS f (x.lo - 1) ++ outS (x.hi + 1) l = _
        rw [e0]; rfl
      rw [e1]
      exact out4_eq l (x.hi + 1) h'
    | false =>
      obtain ⟨v', f', e, k⟩ := out4a_eq l (someS f (x.lo - 1)) (x.hi + 1) h'
      exact .inl ⟨v', f', e, k⟩
theorem outside_eq {r : GS S_Span} (h : bd r.l) : (za r).l = outS (-1099511627776) r.l := by
  unfold za
  rcases out4_eq r.l (-1099511627776) h with ⟨v', f', e, k⟩ | ⟨f', e, k⟩ <;> rw [e] <;> dsimp only <;> rw [some_l, ← k]
  · cases he : (someS f' 1099511627776).isEmpty with
    | true => have e0 : someS f' 1099511627776 = [] := by simpa using he
              rw [e0]; simp [GS.some]
    | false => rfl
  · cases he : (someS f' 1099511627776).isEmpty with
    | true => have e0 : someS f' 1099511627776 = [] := by simpa using he
              rw [e0]; rfl
    | false => rfl
end Go.VS

namespace Go.VS
open Go Go.Proofs
set_option maxHeartbeats 0
set_option linter.unusedSimpArgs false
set_option linter.unusedVariables false
theorem zC (r : GS S_Span) (h : r.l.length ≤ 64) : (za r).l.length ≤ 65 := outsideLen r h

end Go.VS

namespace Go.VS
open Go Go.Proofs
set_option maxHeartbeats 0
set_option linter.unusedSimpArgs false
set_option linter.unusedVariables false
def zv (x : S_Span) (by_ : Int) : (GS S_Span) :=
  (zc (w64 (x.lo + by_)) (w64 (x.hi + by_)))

theorem shift1_len (x : S_Span) (by_ : Int) : (zv x by_).l.length ≤ 1 := some1 _ _

inductive LR_ranges_each_3p1 where
  | x0 (vc3p1_0 : List S_Span)
  | x1 (va3p1_0 : List S_Span)
  | x2
  | x3
instance : Inhabited LR_ranges_each_3p1 := ⟨.x0 default⟩
def zQ (by_ : Int) : List S_Span → (List S_Span) → LR_ranges_each_3p1
  | [], vc3p1_0 => .x0 vc3p1_0
  | x3p1 :: rest3p1, vc3p1_0 =>
    bif (zv x3p1 by_).nl then
      bif ((zv x3p1 by_).l).isEmpty then
        zQ by_ rest3p1 vc3p1_0
      else
        zQ by_ rest3p1 (vc3p1_0 ++ ((zv x3p1 by_).l))
    else
      bif ((zv x3p1 by_).l).isEmpty then
        zQ by_ rest3p1 vc3p1_0
      else
        zQ by_ rest3p1 (vc3p1_0 ++ ((zv x3p1 by_).l))
def ranges_each_3p1a (by_ : Int) : List S_Span → (List S_Span) → LR_ranges_each_3p1
  | [], va3p1_0 => .x1 va3p1_0
  | x3p1 :: rest3p1, va3p1_0 =>
    bif (zv x3p1 by_).nl then
      bif ((zv x3p1 by_).l).isEmpty then
        ranges_each_3p1a by_ rest3p1 va3p1_0
      else
        ranges_each_3p1a by_ rest3p1 (va3p1_0 ++ ((zv x3p1 by_).l))
    else
      bif ((zv x3p1 by_).l).isEmpty then
        zQ by_ rest3p1 va3p1_0
      else
        zQ by_ rest3p1 (va3p1_0 ++ ((zv x3p1 by_).l))
def ranges_each_3p1b (by_ : Int) : List S_Span → LR_ranges_each_3p1
  | [] => .x2
  | x3p1 :: rest3p1 =>
    bif (zv x3p1 by_).nl then
      bif ((zv x3p1 by_).l).isEmpty then
        ranges_each_3p1b by_ rest3p1
      else
        zQ by_ rest3p1 ((zv x3p1 by_).l)
    else
      bif ((zv x3p1 by_).l).isEmpty then
        ranges_each_3p1b by_ rest3p1
      else
        zQ by_ rest3p1 ((zv x3p1 by_).l)
def ranges_each_3p1 (by_ : Int) : List S_Span → LR_ranges_each_3p1
  | [] => .x3
  | x3p1 :: rest3p1 =>
    bif (zv x3p1 by_).nl then
      bif ((zv x3p1 by_).l).isEmpty then
        ranges_each_3p1 by_ rest3p1
      else
        ranges_each_3p1a by_ rest3p1 ((zv x3p1 by_).l)
    else
      bif ((zv x3p1 by_).l).isEmpty then
        ranges_each_3p1b by_ rest3p1
      else
        zQ by_ rest3p1 ((zv x3p1 by_).l)
def ranges_Shift (r : GS S_Span) (by_ : Int) : (GS S_Span) × Int :=
  bif ((zD r) != 0) then
    (GS.nil, (zD r))
  else
    bif decide (((r.l.length : Nat) : Int) > 0) then
      bif (ranges_in by_ (-2199023255552) 2199023255552) then
        match ranges_each_3p1 by_ r.l with
        | .x0 vc3p1_0 =>
          match ranges_gathered_4p1 (srtG gcmp vc3p1_0) 0 with
          | .x0 va4p1_0 =>
            bif decide (((va4p1_0.length : Nat) : Int) > 64) then
              (GS.nil, 2)
            else
              (GS.some va4p1_0, 0)
          | .x1 i4p1 x4p1 va4p1_0 =>
            (GS.nil, 2)
          | .x2 i4p1 x4p1 va4p1_0 =>
            (GS.nil, 2)
          | .x3 =>
            (GS.nil, 0)
          | .x4 i4p1 x4p1 =>
            (GS.nil, 2)
          | .x5 i4p1 x4p1 =>
            (GS.nil, 2)
        | .x1 va3p1_0 =>
          match ranges_gathered_4p1 (srtG gcmp va3p1_0) 0 with
          | .x0 va4p1_0 =>
            bif decide (((va4p1_0.length : Nat) : Int) > 64) then
              (GS.nil, 2)
            else
              (GS.some va4p1_0, 0)
          | .x1 i4p1 x4p1 va4p1_0 =>
            (GS.nil, 2)
          | .x2 i4p1 x4p1 va4p1_0 =>
            (GS.nil, 2)
          | .x3 =>
            (GS.nil, 0)
          | .x4 i4p1 x4p1 =>
            (GS.nil, 2)
          | .x5 i4p1 x4p1 =>
            (GS.nil, 2)
        | .x2 =>
          (GS.nil, 0)
        | .x3 =>
          (GS.nil, 0)
      else
        (GS.nil, 2)
    else
      match ranges_each_3p1 by_ r.l with
      | .x0 vc3p1_0 =>
        match ranges_gathered_4p1 (srtG gcmp vc3p1_0) 0 with
        | .x0 va4p1_0 =>
          bif decide (((va4p1_0.length : Nat) : Int) > 64) then
            (GS.nil, 2)
          else
            (GS.some va4p1_0, 0)
        | .x1 i4p1 x4p1 va4p1_0 =>
          (GS.nil, 2)
        | .x2 i4p1 x4p1 va4p1_0 =>
          (GS.nil, 2)
        | .x3 =>
          (GS.nil, 0)
        | .x4 i4p1 x4p1 =>
          (GS.nil, 2)
        | .x5 i4p1 x4p1 =>
          (GS.nil, 2)
      | .x1 va3p1_0 =>
        match ranges_gathered_4p1 (srtG gcmp va3p1_0) 0 with
        | .x0 va4p1_0 =>
          bif decide (((va4p1_0.length : Nat) : Int) > 64) then
            (GS.nil, 2)
          else
            (GS.some va4p1_0, 0)
        | .x1 i4p1 x4p1 va4p1_0 =>
          (GS.nil, 2)
        | .x2 i4p1 x4p1 va4p1_0 =>
          (GS.nil, 2)
        | .x3 =>
          (GS.nil, 0)
        | .x4 i4p1 x4p1 =>
          (GS.nil, 2)
        | .x5 i4p1 x4p1 =>
          (GS.nil, 2)
      | .x2 =>
        (GS.nil, 0)
      | .x3 =>
        (GS.nil, 0)

end Go.VS

/-
  Ranges: the loop that joins spans in order, plainly (printed by go/rg.py, a program of this claim's own; nothing of it is trusted).
-/
namespace Go.VS
open Go
set_option maxHeartbeats 0
set_option linter.unusedSimpArgs false
set_option linter.unusedVariables false
theorem getD_last {v : List S_Span} {c : S_Span} : (v ++ [c]).getD v.length default = c := by
  rw [List.getD_eq_getElem?_getD, List.getElem?_append_right (Nat.le_refl _)]; simp
theorem set_last {v : List S_Span} {c d : S_Span} : (v ++ [c]).set v.length d = v ++ [d] := by
  rw [List.set_append_right _ _ (Nat.le_refl _)]; simp
theorem len_last {v : List S_Span} {c : S_Span} : w64 ((((v ++ [c]).length : Nat) : Int) - 1) = ((v.length : Nat) : Int) ∨ 9223372036854775807 < v.length := by
  by_cases h : 9223372036854775807 < v.length
  · exact .inr h
  · left
    simp only [List.length_append, List.length_cons, List.length_nil]
    rw [w64_eq (by omega) (by omega)]; omega
def ArL (l : List S_Span) : Prop := ∀ s ∈ l, Ar s.lo ∧ Ar s.hi

theorem ranges_gathered_4_ok : ∀ (l : List S_Span) (i : Nat) (v : List S_Span) (c : S_Span), ArL l → Ar c.hi → v.length + l.length ≤ 1099511627776 → zG l i (v ++ [c]) = .x0 (v ++ jn c l)
  | [], i, v, c, _, _, _ => rfl
  | x :: l, i, v, c, h, hc, hv => by
    have hx := h x List.mem_cons_self
    have h' : ArL l := fun t ht => h t (List.mem_cons_of_mem _ ht)
    simp only [List.length_cons] at hv
    unfold zG jn
    rw [area_iff.2 hx.1, area_iff.2 hx.2]
    have hl : w64 ((((v ++ [c]).length : Nat) : Int) - 1) = ((v.length : Nat) : Int) := by
      rcases len_last (v := v) (c := c) with e | e
      · exact e
      · omega
    have hp : decide ((((v ++ [c]).length : Nat) : Int) > 0) = true := decide_eq_true (by simp only [List.length_append, List.length_cons, List.length_nil]; omega)
    rw [hl, hp, Int.toNat_natCast, getD_last, set_last]
    unfold Ar at hc
    have hx2 := hx.2
    unfold Ar at hx2
    rw [w64_eq (n := c.hi + 1) (by omega) (by omega), imax_eq]
    by_cases hle : x.lo ≤ c.hi + 1
    · rw [decide_eq_true hle, if_pos hle]
      exact ranges_gathered_4_ok l (i + 1) v ⟨c.lo, max c.hi x.hi⟩ h' (by unfold Ar; simp only; omega) (by omega)
    · rw [decide_eq_false hle, if_neg hle]
      have := ranges_gathered_4_ok l (i + 1) (v ++ [c]) x h' hx.2 (by simp only [List.length_append, List.length_cons, List.length_nil]; omega)
      simp only [cond_true, cond_false]
      rw [this, List.append_assoc]; rfl
def ranges_gathered_4_er : LR_ranges_gathered_4 → Bool
  | .x1 _ _ _ => true
  | .x2 _ _ _ => true
  | .x4 _ _ => true
  | .x5 _ _ => true
  | _ => false
theorem ranges_gathered_4_bad : ∀ (l : List S_Span) (i : Nat) (v : List S_Span), ¬ ArL l → ranges_gathered_4_er (zG l i v) = true
  | [], i, v, h => absurd (fun s hs => by cases hs) h
  | x :: l, i, v, h => by
    unfold zG
    cases h1 : zp x.lo with
    | false => rfl
    | true =>
      cases h2 : zp x.hi with
      | false => rfl
      | true =>
        have h' : ¬ ArL l := fun k => h fun s hs => by
          rcases List.mem_cons.1 hs with rfl | hs
          · exact ⟨area_iff.1 h1, area_iff.1 h2⟩
          · exact k s hs
        have ih := fun v => ranges_gathered_4_bad l (i + 1) v h'
        simp only [cond_true]
        cases decide (((v.length : Nat) : Int) > 0) with
        | false => exact ih _
        | true =>
          simp only [cond_true]
          cases decide (x.lo ≤ w64 ((v.getD ((w64 (((v.length : Nat) : Int) - 1)).toNat) default).hi + 1)) <;> exact ih _
theorem ranges_gathered_4_at {l : List S_Span} (hne : l ≠ []) (hl : l.length ≤ 1099511627776) : (ArL l ∧ ranges_gathered_4 (srtG gcmp l) 0 = .x0 (can gcmp l)) ∨ (¬ ArL l ∧ ranges_gathered_4_er (ranges_gathered_4 (srtG gcmp l) 0) = true) := by
  have hp := srtG_perm gcmp_lo l
  have hlen := srtG_len gcmp_lo l
  have har : ArL (srtG gcmp l) ↔ ArL l := ⟨fun h s hs => h s (hp.mem_iff.2 hs), fun h s hs => h s (hp.mem_iff.1 hs)⟩
  rw [← har]
  unfold can
  have hne' : srtG gcmp l ≠ [] := fun h => hne (by rw [h] at hp; exact List.nil_perm.1 hp)
  generalize srtG gcmp l = q at *
  cases q with
  | nil => exact absurd rfl hne'
  | cons c q =>
    simp only [List.length_cons] at hlen
    unfold ranges_gathered_4 jnL
    dsimp only
    by_cases hc : Ar c.lo ∧ Ar c.hi
    · rw [area_iff.2 hc.1, area_iff.2 hc.2]
      by_cases hq : ArL q
      · left
        refine ⟨fun s hs => ?_, ?_⟩
        · rcases List.mem_cons.1 hs with rfl | hs
          · exact hc
          · exact hq s hs
        · exact ranges_gathered_4_ok q 1 [] c hq hc.2 (by simp; omega)
      · right
        exact ⟨fun h => hq fun s hs => h s (List.mem_cons_of_mem _ hs), ranges_gathered_4_bad q 1 [c] hq⟩
    · right
      refine ⟨fun h => hc (h c List.mem_cons_self), ?_⟩
      cases h1 : zp c.lo with
      | false => rfl
      | true =>
        cases h2 : zp c.hi with
        | false => rfl
        | true => exact absurd ⟨area_iff.1 h1, area_iff.1 h2⟩ hc

theorem ranges_gathered_4p1_ok : ∀ (l : List S_Span) (i : Nat) (v : List S_Span) (c : S_Span), ArL l → Ar c.hi → v.length + l.length ≤ 1099511627776 → ranges_gathered_4p1a l i (v ++ [c]) = .x0 (v ++ jn c l)
  | [], i, v, c, _, _, _ => rfl
  | x :: l, i, v, c, h, hc, hv => by
    have hx := h x List.mem_cons_self
    have h' : ArL l := fun t ht => h t (List.mem_cons_of_mem _ ht)
    simp only [List.length_cons] at hv
    unfold ranges_gathered_4p1a jn
    rw [area_iff.2 hx.1, area_iff.2 hx.2]
    have hl : w64 ((((v ++ [c]).length : Nat) : Int) - 1) = ((v.length : Nat) : Int) := by
      rcases len_last (v := v) (c := c) with e | e
      · exact e
      · omega
    have hp : decide ((((v ++ [c]).length : Nat) : Int) > 0) = true := decide_eq_true (by simp only [List.length_append, List.length_cons, List.length_nil]; omega)
    rw [hl, hp, Int.toNat_natCast, getD_last, set_last]
    unfold Ar at hc
    have hx2 := hx.2
    unfold Ar at hx2
    rw [w64_eq (n := c.hi + 1) (by omega) (by omega), imax_eq]
    by_cases hle : x.lo ≤ c.hi + 1
    · rw [decide_eq_true hle, if_pos hle]
      exact ranges_gathered_4p1_ok l (i + 1) v ⟨c.lo, max c.hi x.hi⟩ h' (by unfold Ar; simp only; omega) (by omega)
    · rw [decide_eq_false hle, if_neg hle]
      have := ranges_gathered_4p1_ok l (i + 1) (v ++ [c]) x h' hx.2 (by simp only [List.length_append, List.length_cons, List.length_nil]; omega)
      simp only [cond_true, cond_false]
      rw [this, List.append_assoc]; rfl
def ranges_gathered_4p1_er : LR_ranges_gathered_4p1 → Bool
  | .x1 _ _ _ => true
  | .x2 _ _ _ => true
  | .x4 _ _ => true
  | .x5 _ _ => true
  | _ => false
theorem ranges_gathered_4p1_bad : ∀ (l : List S_Span) (i : Nat) (v : List S_Span), ¬ ArL l → ranges_gathered_4p1_er (ranges_gathered_4p1a l i v) = true
  | [], i, v, h => absurd (fun s hs => by cases hs) h
  | x :: l, i, v, h => by
    unfold ranges_gathered_4p1a
    cases h1 : zp x.lo with
    | false => rfl
    | true =>
      cases h2 : zp x.hi with
      | false => rfl
      | true =>
        have h' : ¬ ArL l := fun k => h fun s hs => by
          rcases List.mem_cons.1 hs with rfl | hs
          · exact ⟨area_iff.1 h1, area_iff.1 h2⟩
          · exact k s hs
        have ih := fun v => ranges_gathered_4p1_bad l (i + 1) v h'
        simp only [cond_true]
        cases decide (((v.length : Nat) : Int) > 0) with
        | false => exact ih _
        | true =>
          simp only [cond_true]
          cases decide (x.lo ≤ w64 ((v.getD ((w64 (((v.length : Nat) : Int) - 1)).toNat) default).hi + 1)) <;> exact ih _
theorem ranges_gathered_4p1_at {l : List S_Span} (hne : l ≠ []) (hl : l.length ≤ 1099511627776) : (ArL l ∧ ranges_gathered_4p1 (srtG gcmp l) 0 = .x0 (can gcmp l)) ∨ (¬ ArL l ∧ ranges_gathered_4p1_er (ranges_gathered_4p1 (srtG gcmp l) 0) = true) := by
  have hp := srtG_perm gcmp_lo l
  have hlen := srtG_len gcmp_lo l
  have har : ArL (srtG gcmp l) ↔ ArL l := ⟨fun h s hs => h s (hp.mem_iff.2 hs), fun h s hs => h s (hp.mem_iff.1 hs)⟩
  rw [← har]
  unfold can
  have hne' : srtG gcmp l ≠ [] := fun h => hne (by rw [h] at hp; exact List.nil_perm.1 hp)
  generalize srtG gcmp l = q at *
  cases q with
  | nil => exact absurd rfl hne'
  | cons c q =>
    simp only [List.length_cons] at hlen
    unfold ranges_gathered_4p1 jnL
    dsimp only
    by_cases hc : Ar c.lo ∧ Ar c.hi
    · rw [area_iff.2 hc.1, area_iff.2 hc.2]
      by_cases hq : ArL q
      · left
        refine ⟨fun s hs => ?_, ?_⟩
        · rcases List.mem_cons.1 hs with rfl | hs
          · exact hc
          · exact hq s hs
        · exact ranges_gathered_4p1_ok q 1 [] c hq hc.2 (by simp; omega)
      · right
        exact ⟨fun h => hq fun s hs => h s (List.mem_cons_of_mem _ hs), ranges_gathered_4p1_bad q 1 [c] hq⟩
    · right
      refine ⟨fun h => hc (h c List.mem_cons_self), ?_⟩
      cases h1 : zp c.lo with
      | false => rfl
      | true =>
        cases h2 : zp c.hi with
        | false => rfl
        | true => exact absurd ⟨area_iff.1 h1, area_iff.1 h2⟩ hc

end Go.VS

/-
  Ranges: the loops over pairs, plainly (printed by go/rp.py, a program of this claim's own; nothing of it is trusted).
-/
namespace Go.VS
open Go
set_option maxHeartbeats 0
theorem flat_cons_emp {α : Type} {f : α → List S_Span} {x : α} {l : List α} (h : (f x).isEmpty = true) : (x :: l).flatMap f = l.flatMap f := by
  have : f x = [] := by simpa using h
  rw [List.flatMap_cons, this]; rfl

end Go.VS

/-
  Ranges: what sums, differences, common and other parts come to (printed by go/ri.py, a program of this claim's own; nothing of it is trusted).
-/
namespace Go.VS
open Go
set_option maxHeartbeats 0
/-- What is made of spans. -/
def GR (l : List S_Span) (res : GS S_Span × Int) : Prop := (ArL l ∧ (can gcmp l).length ≤ 64 ∧ res.1.l = can gcmp l ∧ res.2 = 0) ∨ ((¬ ArL l ∨ 64 < (can gcmp l).length) ∧ res = (GS.nil, 2))
theorem can_nil : can gcmp [] = [] := by
  have : srtG gcmp [] = [] := List.length_eq_zero_iff.1 (by rw [srtG_len gcmp_lo]; rfl)
  unfold can; rw [this]; rfl
theorem GR_nil : GR [] (GS.nil, 0) := .inl ⟨(fun s hs => by cases hs), by rw [can_nil]; simp, by rw [can_nil]; rfl, rfl⟩
theorem GR_end {l : List S_Span} (h : ArL l) : GR l (bif decide ((((can gcmp l).length : Nat) : Int) > 64) then (GS.nil, 2) else (GS.some (can gcmp l), 0)) := by
  cases hd : decide ((((can gcmp l).length : Nat) : Int) > 64) with
  | true => have := of_decide_eq_true hd; exact .inr ⟨.inr (by omega), rfl⟩
  | false => have := of_decide_eq_false hd; exact .inl ⟨h, by omega, rfl, rfl⟩
/-- A range or that it does not fit. -/
def Res (S : Int → Prop) (res : GS S_Span × Int) : Prop := (res.2 = 0 ∧ Ok res.1.l ∧ Rg S res.1.l) ∨ res = (GS.nil, 2)
theorem GR.res {l : List S_Span} {res : GS S_Span × Int} (hl : ∀ s ∈ l, s.lo ≤ s.hi) (h : GR l res) : Res (In l) res := by
  rcases h with ⟨h1, h2, h3, h4⟩ | ⟨_, h⟩
  · left
    have k := can_rg gcmp_lo hl
    rw [h3]
    refine ⟨h4, ⟨k.1, cn_bd k.1 fun x hx => ?_, h2⟩, k⟩
    obtain ⟨s, hs, a, b⟩ := (k.2 x).1 hx
    have := h1 s hs
    unfold Ar at this
    omega
  · exact .inr h
theorem Res.congr {S T : Int → Prop} {res : GS S_Span × Int} (h : Res S res) (e : ∀ x, S x ↔ T x) : Res T res := h.imp (fun ⟨a, b, c⟩ => ⟨a, b, c.congr e⟩) id

end Go.VS

namespace Go.VS
open Go Go.Proofs
set_option maxHeartbeats 0
set_option linter.unusedSimpArgs false
set_option linter.unusedVariables false
end Go.VS

/-
  Ranges: the loop that joins spans in order, plainly (printed by go/rg.py, a program of this claim's own; nothing of it is trusted).
-/
namespace Go.VS
open Go
set_option maxHeartbeats 0
set_option linter.unusedSimpArgs false
set_option linter.unusedVariables false

end Go.VS

namespace Go.VS
open Go Go.Proofs
set_option maxHeartbeats 0
set_option linter.unusedSimpArgs false
set_option linter.unusedVariables false
def z6 (x : S_Span) (y : S_Span) : (GS S_Span) × Bool :=
  bif decide ((((zc (imax x.lo y.lo) (imin x.hi y.hi)).l.length : Nat) : Int) > 0) then
    ((zc (imax x.lo y.lo) (imin x.hi y.hi)), true)
  else
    ((zc (imax x.lo y.lo) (imin x.hi y.hi)), false)

theorem T_ranges_Within_1 (x : S_Span) (y : S_Span) : (lim cfg).pure 92 [S_Span.D x, S_Span.D y] = some (.tup [GS.D S_Span.D 2 ((z6 x y).1), B ((z6 x y).2)]) := by
  unfold z6
  cases h1 : decide ((((zc (imax x.lo y.lo) (imin x.hi y.hi)).l.length : Nat) : Int) > 0) with
  | true =>
    have g1 := of_decide_eq_true h1
    exact zj [.pure (.sl ((zc (imax x.lo y.lo) (imin x.hi y.hi)).nl) (((zc (imax x.lo y.lo) (imin x.hi y.hi)).l).map S_Span.D) (zsl ((zc (imax x.lo y.lo) (imin x.hi y.hi)).nl) 2) none), .rw 20 (I (((zc (imax x.lo y.lo) (imin x.hi y.hi)).l.length : Nat) : Int)), .dec true] (And.intro h1 (And.intro (zh S_Span.D (zc (imax x.lo y.lo) (imin x.hi y.hi))) (And.intro (T_ranges_some (imax x.lo y.lo) (imin x.hi y.hi)) trivial))) (by kernel_rfl)
  | false =>
    have g1 := of_decide_eq_false h1
    exact zj [.pure (.sl ((zc (imax x.lo y.lo) (imin x.hi y.hi)).nl) (((zc (imax x.lo y.lo) (imin x.hi y.hi)).l).map S_Span.D) (zsl ((zc (imax x.lo y.lo) (imin x.hi y.hi)).nl) 2) none), .rw 20 (I (((zc (imax x.lo y.lo) (imin x.hi y.hi)).l.length : Nat) : Int)), .dec false] (And.intro h1 (And.intro (zh S_Span.D (zc (imax x.lo y.lo) (imin x.hi y.hi))) (And.intro (T_ranges_some (imax x.lo y.lo) (imin x.hi y.hi)) trivial))) (by kernel_rfl)

theorem within1_len (x y : S_Span) : ((z6 x y).1).l.length ≤ 1 := by
  unfold z6
  cases decide ((((zc (imax x.lo y.lo) (imin x.hi y.hi)).l.length : Nat) : Int) > 0) <;> exact some1 _ _

def sd179 (a : GS S_Span) (i3p4 : Nat) (q3p4_0 : GS S_Span) (x3p4 : S_Span) (i6p8 : Nat) (x6p8 : S_Span) (v6p8_0 : List S_Span) : St := ⟨40, [(22, I ((i6p8 + 1 : Nat) : Int)), (37, I ((i6p8 + 1 : Nat) : Int)), (36, B false), (7, .lsl 1 0 v6p8_0.length 2 none), (35, .lsl 1 0 v6p8_0.length 2 none), (34, .sl (((z6 x3p4 x6p8).1).nl) ((((z6 x3p4 x6p8).1).l).map S_Span.D) (zsl (((z6 x3p4 x6p8).1).nl) 2) none), (33, .lsl 1 0 v6p8_0.length 2 none), (13, B false), (12, .sl (((z6 x3p4 x6p8).1).nl) ((((z6 x3p4 x6p8).1).l).map S_Span.D) (zsl (((z6 x3p4 x6p8).1).nl) 2) none), (32, B false), (31, .sl (((z6 x3p4 x6p8).1).nl) ((((z6 x3p4 x6p8).1).l).map S_Span.D) (zsl (((z6 x3p4 x6p8).1).nl) 2) none), (26, .tup [.sl (((z6 x3p4 x6p8).1).nl) ((((z6 x3p4 x6p8).1).l).map S_Span.D) (zsl (((z6 x3p4 x6p8).1).nl) 2) none, B ((z6 x3p4 x6p8).2)]), (30, .tup [.sl (((z6 x3p4 x6p8).1).nl) ((((z6 x3p4 x6p8).1).l).map S_Span.D) (zsl (((z6 x3p4 x6p8).1).nl) 2) none, B ((z6 x3p4 x6p8).2)]), (29, .agg [I x6p8.lo, I x6p8.hi]), (28, .agg [I x3p4.lo, I x3p4.hi]), (27, .fn (.func 92) [] []), (11, .lref 3 0 2 0), (25, .agg [I x6p8.lo, I x6p8.hi]), (24, .ptr (.agg [I x6p8.lo, I x6p8.hi])), (23, B true), (1, .sl q3p4_0.nl (q3p4_0.l.map S_Span.D) (zsl q3p4_0.nl 2) none), (2, .fn (.func 92) [] []), (7, .lsl 1 0 v6p8_0.length 2 none), (9, .lref 2 0 2 0), (14, .sl a.nl (a.l.map S_Span.D) (zsl a.nl 2) none), (15, I ((a.l.length : Nat) : Int)), (16, I ((i3p4 : Nat) : Int)), (20, .sl q3p4_0.nl (q3p4_0.l.map S_Span.D) (zsl q3p4_0.nl 2) none), (21, I ((q3p4_0.l.length : Nat) : Int)), (22, I ((i6p8 : Nat) : Int))], [(1, ⟨v6p8_0.map S_Span.D, 2, false⟩), (2, ⟨[.agg [I x3p4.lo, I x3p4.hi]], 2, false⟩), (3, ⟨[.agg [I x6p8.lo, I x6p8.hi]], 2, false⟩)], 4, 1⟩

def sd180 (a : GS S_Span) (i3p4 : Nat) (q3p4_0 : GS S_Span) (x3p4 : S_Span) (i6p8 : Nat) (x6p8 : S_Span) (v6p8_0 : List S_Span) : St := ⟨40, [(22, I ((i6p8 + 1 : Nat) : Int)), (37, I ((i6p8 + 1 : Nat) : Int)), (36, B false), (7, .lsl 4 0 ((v6p8_0 ++ (((z6 x3p4 x6p8).1).l)).length) 2 none), (35, .lsl 4 0 ((v6p8_0 ++ (((z6 x3p4 x6p8).1).l)).length) 2 none), (34, .sl (((z6 x3p4 x6p8).1).nl) ((((z6 x3p4 x6p8).1).l).map S_Span.D) (zsl (((z6 x3p4 x6p8).1).nl) 2) none), (33, .lsl 1 0 v6p8_0.length 2 none), (13, B false), (12, .sl (((z6 x3p4 x6p8).1).nl) ((((z6 x3p4 x6p8).1).l).map S_Span.D) (zsl (((z6 x3p4 x6p8).1).nl) 2) none), (32, B false), (31, .sl (((z6 x3p4 x6p8).1).nl) ((((z6 x3p4 x6p8).1).l).map S_Span.D) (zsl (((z6 x3p4 x6p8).1).nl) 2) none), (26, .tup [.sl (((z6 x3p4 x6p8).1).nl) ((((z6 x3p4 x6p8).1).l).map S_Span.D) (zsl (((z6 x3p4 x6p8).1).nl) 2) none, B ((z6 x3p4 x6p8).2)]), (30, .tup [.sl (((z6 x3p4 x6p8).1).nl) ((((z6 x3p4 x6p8).1).l).map S_Span.D) (zsl (((z6 x3p4 x6p8).1).nl) 2) none, B ((z6 x3p4 x6p8).2)]), (29, .agg [I x6p8.lo, I x6p8.hi]), (28, .agg [I x3p4.lo, I x3p4.hi]), (27, .fn (.func 92) [] []), (11, .lref 3 0 2 0), (25, .agg [I x6p8.lo, I x6p8.hi]), (24, .ptr (.agg [I x6p8.lo, I x6p8.hi])), (23, B true), (1, .sl q3p4_0.nl (q3p4_0.l.map S_Span.D) (zsl q3p4_0.nl 2) none), (2, .fn (.func 92) [] []), (7, .lsl 1 0 v6p8_0.length 2 none), (9, .lref 2 0 2 0), (14, .sl a.nl (a.l.map S_Span.D) (zsl a.nl 2) none), (15, I ((a.l.length : Nat) : Int)), (16, I ((i3p4 : Nat) : Int)), (20, .sl q3p4_0.nl (q3p4_0.l.map S_Span.D) (zsl q3p4_0.nl 2) none), (21, I ((q3p4_0.l.length : Nat) : Int)), (22, I ((i6p8 : Nat) : Int))], [(2, ⟨[.agg [I x3p4.lo, I x3p4.hi]], 2, false⟩), (3, ⟨[.agg [I x6p8.lo, I x6p8.hi]], 2, false⟩), (4, ⟨(v6p8_0 ++ (((z6 x3p4 x6p8).1).l)).map S_Span.D, 2, false⟩)], 5, 1⟩

inductive LR_ranges_pairs_6p8 where
  | x0 (v6p8_0 : List S_Span)
  | x1 (i6p8 : Nat) (x6p8 : S_Span) (v6p8_0 : List S_Span)
  | x2 (i6p8 : Nat) (x6p8 : S_Span) (v6p8_0 : List S_Span)
instance : Inhabited LR_ranges_pairs_6p8 := ⟨.x0 default⟩
def ranges_pairs_6p8 (x3p4 : S_Span) : List S_Span → Nat → (List S_Span) → LR_ranges_pairs_6p8
  | [], i6p8, v6p8_0 => .x0 v6p8_0
  | x6p8 :: rest6p8, i6p8, v6p8_0 =>
    bif ((z6 x3p4 x6p8).2) then
      bif (((z6 x3p4 x6p8).1).l).isEmpty then
        .x1 i6p8 x6p8 v6p8_0
      else
        .x2 i6p8 x6p8 v6p8_0
    else
      bif (((z6 x3p4 x6p8).1).l).isEmpty then
        ranges_pairs_6p8 x3p4 rest6p8 (i6p8 + 1) v6p8_0
      else
        ranges_pairs_6p8 x3p4 rest6p8 (i6p8 + 1) (v6p8_0 ++ (((z6 x3p4 x6p8).1).l))
def lr_ranges_pairs_6p8 (a : GS S_Span) (i3p4 : Nat) (q3p4_0 : GS S_Span) (x3p4 : S_Span) : LR_ranges_pairs_6p8 → Exit × St
  | .x0 v6p8_0 => ((.exit 2), ⟨40, [(23, B false), (1, .sl q3p4_0.nl (q3p4_0.l.map S_Span.D) (zsl q3p4_0.nl 2) none), (2, .fn (.func 92) [] []), (7, .lsl 1 0 v6p8_0.length 2 none), (9, .lref 2 0 2 0), (14, .sl a.nl (a.l.map S_Span.D) (zsl a.nl 2) none), (15, I ((a.l.length : Nat) : Int)), (16, I ((i3p4 : Nat) : Int)), (20, .sl q3p4_0.nl (q3p4_0.l.map S_Span.D) (zsl q3p4_0.nl 2) none), (21, I ((q3p4_0.l.length : Nat) : Int)), (22, I ((q3p4_0.l.length : Nat) : Int))], [(1, ⟨v6p8_0.map S_Span.D, 2, false⟩), (2, ⟨[.agg [I x3p4.lo, I x3p4.hi]], 2, false⟩)], 3, 1⟩)
  | .x1 i6p8 x6p8 v6p8_0 => ((.exit 0), ⟨40, [(36, B true), (7, .lsl 1 0 v6p8_0.length 2 none), (35, .lsl 1 0 v6p8_0.length 2 none), (34, .sl (((z6 x3p4 x6p8).1).nl) ((((z6 x3p4 x6p8).1).l).map S_Span.D) (zsl (((z6 x3p4 x6p8).1).nl) 2) none), (33, .lsl 1 0 v6p8_0.length 2 none), (13, B true), (12, .sl (((z6 x3p4 x6p8).1).nl) ((((z6 x3p4 x6p8).1).l).map S_Span.D) (zsl (((z6 x3p4 x6p8).1).nl) 2) none), (32, B true), (31, .sl (((z6 x3p4 x6p8).1).nl) ((((z6 x3p4 x6p8).1).l).map S_Span.D) (zsl (((z6 x3p4 x6p8).1).nl) 2) none), (26, .tup [.sl (((z6 x3p4 x6p8).1).nl) ((((z6 x3p4 x6p8).1).l).map S_Span.D) (zsl (((z6 x3p4 x6p8).1).nl) 2) none, B ((z6 x3p4 x6p8).2)]), (30, .tup [.sl (((z6 x3p4 x6p8).1).nl) ((((z6 x3p4 x6p8).1).l).map S_Span.D) (zsl (((z6 x3p4 x6p8).1).nl) 2) none, B ((z6 x3p4 x6p8).2)]), (29, .agg [I x6p8.lo, I x6p8.hi]), (28, .agg [I x3p4.lo, I x3p4.hi]), (27, .fn (.func 92) [] []), (11, .lref 3 0 2 0), (25, .agg [I x6p8.lo, I x6p8.hi]), (24, .ptr (.agg [I x6p8.lo, I x6p8.hi])), (23, B true), (1, .sl q3p4_0.nl (q3p4_0.l.map S_Span.D) (zsl q3p4_0.nl 2) none), (2, .fn (.func 92) [] []), (7, .lsl 1 0 v6p8_0.length 2 none), (9, .lref 2 0 2 0), (14, .sl a.nl (a.l.map S_Span.D) (zsl a.nl 2) none), (15, I ((a.l.length : Nat) : Int)), (16, I ((i3p4 : Nat) : Int)), (20, .sl q3p4_0.nl (q3p4_0.l.map S_Span.D) (zsl q3p4_0.nl 2) none), (21, I ((q3p4_0.l.length : Nat) : Int)), (22, I ((i6p8 : Nat) : Int))], [(1, ⟨v6p8_0.map S_Span.D, 2, false⟩), (2, ⟨[.agg [I x3p4.lo, I x3p4.hi]], 2, false⟩), (3, ⟨[.agg [I x6p8.lo, I x6p8.hi]], 2, false⟩)], 4, 1⟩)
  | .x2 i6p8 x6p8 v6p8_0 => ((.exit 0), ⟨40, [(36, B true), (7, .lsl 4 0 ((v6p8_0 ++ (((z6 x3p4 x6p8).1).l)).length) 2 none), (35, .lsl 4 0 ((v6p8_0 ++ (((z6 x3p4 x6p8).1).l)).length) 2 none), (34, .sl (((z6 x3p4 x6p8).1).nl) ((((z6 x3p4 x6p8).1).l).map S_Span.D) (zsl (((z6 x3p4 x6p8).1).nl) 2) none), (33, .lsl 1 0 v6p8_0.length 2 none), (13, B true), (12, .sl (((z6 x3p4 x6p8).1).nl) ((((z6 x3p4 x6p8).1).l).map S_Span.D) (zsl (((z6 x3p4 x6p8).1).nl) 2) none), (32, B true), (31, .sl (((z6 x3p4 x6p8).1).nl) ((((z6 x3p4 x6p8).1).l).map S_Span.D) (zsl (((z6 x3p4 x6p8).1).nl) 2) none), (26, .tup [.sl (((z6 x3p4 x6p8).1).nl) ((((z6 x3p4 x6p8).1).l).map S_Span.D) (zsl (((z6 x3p4 x6p8).1).nl) 2) none, B ((z6 x3p4 x6p8).2)]), (30, .tup [.sl (((z6 x3p4 x6p8).1).nl) ((((z6 x3p4 x6p8).1).l).map S_Span.D) (zsl (((z6 x3p4 x6p8).1).nl) 2) none, B ((z6 x3p4 x6p8).2)]), (29, .agg [I x6p8.lo, I x6p8.hi]), (28, .agg [I x3p4.lo, I x3p4.hi]), (27, .fn (.func 92) [] []), (11, .lref 3 0 2 0), (25, .agg [I x6p8.lo, I x6p8.hi]), (24, .ptr (.agg [I x6p8.lo, I x6p8.hi])), (23, B true), (1, .sl q3p4_0.nl (q3p4_0.l.map S_Span.D) (zsl q3p4_0.nl 2) none), (2, .fn (.func 92) [] []), (7, .lsl 1 0 v6p8_0.length 2 none), (9, .lref 2 0 2 0), (14, .sl a.nl (a.l.map S_Span.D) (zsl a.nl 2) none), (15, I ((a.l.length : Nat) : Int)), (16, I ((i3p4 : Nat) : Int)), (20, .sl q3p4_0.nl (q3p4_0.l.map S_Span.D) (zsl q3p4_0.nl 2) none), (21, I ((q3p4_0.l.length : Nat) : Int)), (22, I ((i6p8 : Nat) : Int))], [(2, ⟨[.agg [I x3p4.lo, I x3p4.hi]], 2, false⟩), (3, ⟨[.agg [I x6p8.lo, I x6p8.hi]], 2, false⟩), (4, ⟨(v6p8_0 ++ (((z6 x3p4 x6p8).1).l)).map S_Span.D, 2, false⟩)], 5, 1⟩)
def iv_ranges_pairs_6p8 (a : GS S_Span) (i3p4 : Nat) (q3p4_0 : GS S_Span) (x3p4 : S_Span) : LR_ranges_pairs_6p8 → Prop
  | .x0 v6p8_0 => (v6p8_0.length ≤ 65 * i3p4 + q3p4_0.l.length)
  | .x1 i6p8 x6p8 v6p8_0 => (v6p8_0.length ≤ 65 * i3p4 + i6p8)
  | .x2 i6p8 x6p8 v6p8_0 => (v6p8_0.length ≤ 65 * i3p4 + i6p8)
def ranges_pairs_6p8_l_o1 (x3p4 : S_Span) (x6p8 : S_Span) : List Ora := [.dec true, .el (.agg [I x6p8.lo, I x6p8.hi]), .pure (.tup [.sl (((z6 x3p4 x6p8).1).nl) ((((z6 x3p4 x6p8).1).l).map S_Span.D) (zsl (((z6 x3p4 x6p8).1).nl) 2) none, B ((z6 x3p4 x6p8).2)])]
theorem lp_ranges_pairs_6p8 (a : GS S_Span) (i3p4 : Nat) (q3p4_0 : GS S_Span) (x3p4 : S_Span) : ∀ (rest6p8 : List S_Span) (i6p8 : Nat) (v6p8_0 : List S_Span) (hd6p8 : q3p4_0.l.drop i6p8 = rest6p8) (hi6p8 : i6p8 ≤ q3p4_0.l.length) (hb65 : q3p4_0.l.length ≤ 65) (ho64 : i3p4 < 64) (hg6p8_v6p8_0 : v6p8_0.length ≤ 65 * i3p4 + i6p8) (hL6p8 : q3p4_0.l.length ≤ 1099511627776), (lim cfg).loop 87 lp87_6 ⟨40, [(1, .sl q3p4_0.nl (q3p4_0.l.map S_Span.D) (zsl q3p4_0.nl 2) none), (2, .fn (.func 92) [] []), (7, .lsl 1 0 v6p8_0.length 2 none), (9, .lref 2 0 2 0), (14, .sl a.nl (a.l.map S_Span.D) (zsl a.nl 2) none), (15, I ((a.l.length : Nat) : Int)), (16, I ((i3p4 : Nat) : Int)), (20, .sl q3p4_0.nl (q3p4_0.l.map S_Span.D) (zsl q3p4_0.nl 2) none), (21, I ((q3p4_0.l.length : Nat) : Int)), (22, I ((i6p8 : Nat) : Int))], [(1, ⟨v6p8_0.map S_Span.D, 2, false⟩), (2, ⟨[.agg [I x3p4.lo, I x3p4.hi]], 2, false⟩)], 3, 1⟩ = some (lr_ranges_pairs_6p8 a i3p4 q3p4_0 x3p4 (ranges_pairs_6p8 x3p4 rest6p8 i6p8 v6p8_0)) := by
  intro rest6p8
  induction rest6p8 with
  | nil =>
    intro i6p8 v6p8_0 hd6p8 hi6p8 hb65 ho64 hg6p8_v6p8_0 hL6p8
    unfold ranges_pairs_6p8
    obtain rfl : i6p8 = q3p4_0.l.length := nil_eq hd6p8 hi6p8
    exact zF [.dec false] (And.intro (lt_no hd6p8) trivial) (by kernel_rfl)
  | cons x6p8 rest6p8 ih =>
    intro i6p8 v6p8_0 hd6p8 hi6p8 hb65 ho64 hg6p8_v6p8_0 hL6p8
    have hlt6p8 := ze hd6p8
    have hlx := within1_len x3p4 x6p8
    unfold ranges_pairs_6p8
    have p1 := (el_at (s := q3p4_0) (f := S_Span.D) (k := 2) hd6p8)
    cases h25 : ((z6 x3p4 x6p8).2) with
    | true =>
      cases h26 : (((z6 x3p4 x6p8).1).l).isEmpty with
      | true =>
        exact zF ((ranges_pairs_6p8_l_o1 x3p4 x6p8) ++ [.dec true, .op (some 35) ⟨.lsl 1 0 v6p8_0.length 2 none, [], [], 4⟩]) (And.intro (app_none (te := ty25) (gO := zr [(1, ⟨v6p8_0.map S_Span.D, 2, false⟩), (2, ⟨[.agg [I x3p4.lo, I x3p4.hi]], 2, false⟩), (3, ⟨[.agg [I x6p8.lo, I x6p8.hi]], 2, false⟩)]) (nxt := 4) (f := S_Span.D) (sz := 2) (d := .lsl 1 0 v6p8_0.length 2 none) ((z6 x3p4 x6p8).1) h26 rfl) (And.intro h25 (And.intro (T_ranges_Within_1 x3p4 x6p8) (And.intro p1 (And.intro (lt_at hd6p8) trivial))))) (by kernel_rfl)
      | false =>
        exact zF ((ranges_pairs_6p8_l_o1 x3p4 x6p8) ++ [.dec true, .op (some 35) ⟨.lsl 4 0 ((v6p8_0 ++ (((z6 x3p4 x6p8).1).l)).length) 2 none, [(1, none), (4, some ⟨(v6p8_0 ++ (((z6 x3p4 x6p8).1).l)).map S_Span.D, 2, false⟩)], [1], 5⟩]) (And.intro (app_moreD (te := ty25) (gO := zr [(1, ⟨v6p8_0.map S_Span.D, 2, false⟩), (2, ⟨[.agg [I x3p4.lo, I x3p4.hi]], 2, false⟩), (3, ⟨[.agg [I x6p8.lo, I x6p8.hi]], 2, false⟩)]) (nxt := 4) (o := 1) (v := v6p8_0) z8 ((z6 x3p4 x6p8).1) h26 (by kernel_rfl) rfl (by kernel_rfl) (by decide) ⟨by simp only [ty25, big] <;> (first | assumption | omega | (exact two_bd (by omega) (by omega)) | (exact add_some (by omega)) | (exact add_some' (by omega)) | (exact one_some (by omega)) | (exact one_some' (by omega)) | (exact zC _ (by omega)) | (simp only [zm] at * <;> omega) | (simp only [srtL, GS.some_l, List.length_set, List.length_append, List.length_cons, List.length_nil] at * <;> first | with_reducible assumption | omega) | (simp only [srtL, GS.some_l, List.length_set, List.length_append, List.length_cons, List.length_nil, zm] at * <;> first | with_reducible assumption | omega) | (simp at * <;> omega)), by simp only [big] <;> (first | assumption | omega | (exact two_bd (by omega) (by omega)) | (exact add_some (by omega)) | (exact add_some' (by omega)) | (exact one_some (by omega)) | (exact one_some' (by omega)) | (exact zC _ (by omega)) | (simp only [zm] at * <;> omega) | (simp only [srtL, GS.some_l, List.length_set, List.length_append, List.length_cons, List.length_nil] at * <;> first | with_reducible assumption | omega) | (simp only [srtL, GS.some_l, List.length_set, List.length_append, List.length_cons, List.length_nil, zm] at * <;> first | with_reducible assumption | omega) | (simp at * <;> omega))⟩) (And.intro h25 (And.intro (T_ranges_Within_1 x3p4 x6p8) (And.intro p1 (And.intro (lt_at hd6p8) trivial))))) (by kernel_rfl)
    | false =>
      cases h27 : (((z6 x3p4 x6p8).1).l).isEmpty with
      | true =>
        exact po_turn' (ks := [1, 2, 7, 9, 14, 15, 16, 20, 21, 22]) (st' := (sd179 a i3p4 q3p4_0 x3p4 i6p8 x6p8 v6p8_0)) ((ranges_pairs_6p8_l_o1 x3p4 x6p8) ++ [.dec false, .op (some 35) ⟨.lsl 1 0 v6p8_0.length 2 none, [], [], 4⟩, .rw 37 (I ((i6p8 + 1 : Nat) : Int))]) (And.intro (inc_rw (i := i6p8) (by have := ze hd6p8; omega)) (And.intro (app_none (te := ty25) (gO := zr [(1, ⟨v6p8_0.map S_Span.D, 2, false⟩), (2, ⟨[.agg [I x3p4.lo, I x3p4.hi]], 2, false⟩), (3, ⟨[.agg [I x6p8.lo, I x6p8.hi]], 2, false⟩)]) (nxt := 4) (f := S_Span.D) (sz := 2) (d := .lsl 1 0 v6p8_0.length 2 none) ((z6 x3p4 x6p8).1) h27 rfl) (And.intro h25 (And.intro (T_ranges_Within_1 x3p4 x6p8) (And.intro p1 (And.intro (lt_at hd6p8) trivial)))))) (by kernel_rfl) (by (simp only [sd179, go_sem, List.length_set, Nat.reduceAdd, Nat.reduceEqDiff, Nat.reduceLT, Nat.reduceLeDiff, bI2, zl.idsL, zl.renL, zl.snapAll, z8.idsL, z8.renL, z8.snapAll]) <;> rfl) (ih (i6p8 + 1) v6p8_0 (zg hd6p8) (ze hd6p8) (by omega) (by omega) (by omega) (by omega)) (by kernel_rfl)
      | false =>
        exact po_turn' (ks := [1, 2, 7, 9, 14, 15, 16, 20, 21, 22]) (st' := (sd180 a i3p4 q3p4_0 x3p4 i6p8 x6p8 v6p8_0)) ((ranges_pairs_6p8_l_o1 x3p4 x6p8) ++ [.dec false, .op (some 35) ⟨.lsl 4 0 ((v6p8_0 ++ (((z6 x3p4 x6p8).1).l)).length) 2 none, [(1, none), (4, some ⟨(v6p8_0 ++ (((z6 x3p4 x6p8).1).l)).map S_Span.D, 2, false⟩)], [1], 5⟩, .rw 37 (I ((i6p8 + 1 : Nat) : Int))]) (And.intro (inc_rw (i := i6p8) (by have := ze hd6p8; omega)) (And.intro (app_moreD (te := ty25) (gO := zr [(1, ⟨v6p8_0.map S_Span.D, 2, false⟩), (2, ⟨[.agg [I x3p4.lo, I x3p4.hi]], 2, false⟩), (3, ⟨[.agg [I x6p8.lo, I x6p8.hi]], 2, false⟩)]) (nxt := 4) (o := 1) (v := v6p8_0) z8 ((z6 x3p4 x6p8).1) h27 (by kernel_rfl) rfl (by kernel_rfl) (by decide) ⟨by simp only [ty25, big] <;> (first | assumption | omega | (exact two_bd (by omega) (by omega)) | (exact add_some (by omega)) | (exact add_some' (by omega)) | (exact one_some (by omega)) | (exact one_some' (by omega)) | (exact zC _ (by omega)) | (simp only [zm] at * <;> omega) | (simp only [srtL, GS.some_l, List.length_set, List.length_append, List.length_cons, List.length_nil] at * <;> first | with_reducible assumption | omega) | (simp only [srtL, GS.some_l, List.length_set, List.length_append, List.length_cons, List.length_nil, zm] at * <;> first | with_reducible assumption | omega) | (simp at * <;> omega)), by simp only [big] <;> (first | assumption | omega | (exact two_bd (by omega) (by omega)) | (exact add_some (by omega)) | (exact add_some' (by omega)) | (exact one_some (by omega)) | (exact one_some' (by omega)) | (exact zC _ (by omega)) | (simp only [zm] at * <;> omega) | (simp only [srtL, GS.some_l, List.length_set, List.length_append, List.length_cons, List.length_nil] at * <;> first | with_reducible assumption | omega) | (simp only [srtL, GS.some_l, List.length_set, List.length_append, List.length_cons, List.length_nil, zm] at * <;> first | with_reducible assumption | omega) | (simp at * <;> omega))⟩) (And.intro h25 (And.intro (T_ranges_Within_1 x3p4 x6p8) (And.intro p1 (And.intro (lt_at hd6p8) trivial)))))) (by kernel_rfl) (by (simp only [sd180, go_sem, List.length_set, Nat.reduceAdd, Nat.reduceEqDiff, Nat.reduceLT, Nat.reduceLeDiff, bI2, zl.idsL, zl.renL, zl.snapAll, z8.idsL, z8.renL, z8.snapAll]) <;> rfl) (ih (i6p8 + 1) (v6p8_0 ++ (((z6 x3p4 x6p8).1).l)) (zg hd6p8) (ze hd6p8) (by omega) (by omega) (by simp only [List.length_append, List.length_cons, List.length_nil] at * <;> omega) (by omega)) (by kernel_rfl)
theorem ivt_ranges_pairs_6p8 (a : GS S_Span) (i3p4 : Nat) (q3p4_0 : GS S_Span) (x3p4 : S_Span) : ∀ (rest6p8 : List S_Span) (i6p8 : Nat) (v6p8_0 : List S_Span) (hd6p8 : q3p4_0.l.drop i6p8 = rest6p8) (hi6p8 : i6p8 ≤ q3p4_0.l.length) (hb65 : q3p4_0.l.length ≤ 65) (ho64 : i3p4 < 64) (hg6p8_v6p8_0 : v6p8_0.length ≤ 65 * i3p4 + i6p8) (hL6p8 : q3p4_0.l.length ≤ 1099511627776), iv_ranges_pairs_6p8 a i3p4 q3p4_0 x3p4 (ranges_pairs_6p8 x3p4 rest6p8 i6p8 v6p8_0) := by
  intro rest6p8
  induction rest6p8 with
  | nil =>
    intro i6p8 v6p8_0 hd6p8 hi6p8 hb65 ho64 hg6p8_v6p8_0 hL6p8
    unfold ranges_pairs_6p8
    obtain rfl : i6p8 = q3p4_0.l.length := nil_eq hd6p8 hi6p8
    exact hg6p8_v6p8_0
  | cons x6p8 rest6p8 ih =>
    intro i6p8 v6p8_0 hd6p8 hi6p8 hb65 ho64 hg6p8_v6p8_0 hL6p8
    have hlt6p8 := ze hd6p8
    have hlx := within1_len x3p4 x6p8
    unfold ranges_pairs_6p8
    cases h25 : ((z6 x3p4 x6p8).2) with
    | true =>
      cases h26 : (((z6 x3p4 x6p8).1).l).isEmpty with
      | true =>
        exact hg6p8_v6p8_0
      | false =>
        exact hg6p8_v6p8_0
    | false =>
      cases h27 : (((z6 x3p4 x6p8).1).l).isEmpty with
      | true =>
        exact ih (i6p8 + 1) v6p8_0 (zg hd6p8) (ze hd6p8) (by omega) (by omega) (by omega) (by omega)
      | false =>
        exact ih (i6p8 + 1) (v6p8_0 ++ (((z6 x3p4 x6p8).1).l)) (zg hd6p8) (ze hd6p8) (by omega) (by omega) (by simp only [List.length_append, List.length_cons, List.length_nil] at * <;> omega) (by omega)

def sd184 (a : GS S_Span) (i3p4 : Nat) (q3p4_0 : GS S_Span) (x3p4 : S_Span) (i6p9 : Nat) (x6p9 : S_Span) (va6p9_0 : List S_Span) : St := ⟨40, [(22, I ((i6p9 + 1 : Nat) : Int)), (37, I ((i6p9 + 1 : Nat) : Int)), (36, B false), (7, .lsl 1 0 va6p9_0.length 2 none), (35, .lsl 1 0 va6p9_0.length 2 none), (34, .sl (((z6 x3p4 x6p9).1).nl) ((((z6 x3p4 x6p9).1).l).map S_Span.D) (zsl (((z6 x3p4 x6p9).1).nl) 2) none), (33, .lsl 1 0 va6p9_0.length 2 none), (13, B false), (12, .sl (((z6 x3p4 x6p9).1).nl) ((((z6 x3p4 x6p9).1).l).map S_Span.D) (zsl (((z6 x3p4 x6p9).1).nl) 2) none), (32, B false), (31, .sl (((z6 x3p4 x6p9).1).nl) ((((z6 x3p4 x6p9).1).l).map S_Span.D) (zsl (((z6 x3p4 x6p9).1).nl) 2) none), (26, .tup [.sl (((z6 x3p4 x6p9).1).nl) ((((z6 x3p4 x6p9).1).l).map S_Span.D) (zsl (((z6 x3p4 x6p9).1).nl) 2) none, B ((z6 x3p4 x6p9).2)]), (30, .tup [.sl (((z6 x3p4 x6p9).1).nl) ((((z6 x3p4 x6p9).1).l).map S_Span.D) (zsl (((z6 x3p4 x6p9).1).nl) 2) none, B ((z6 x3p4 x6p9).2)]), (29, .agg [I x6p9.lo, I x6p9.hi]), (28, .agg [I x3p4.lo, I x3p4.hi]), (27, .fn (.func 92) [] []), (11, .lref 3 0 2 0), (25, .agg [I x6p9.lo, I x6p9.hi]), (24, .ptr (.agg [I x6p9.lo, I x6p9.hi])), (23, B true), (1, .sl q3p4_0.nl (q3p4_0.l.map S_Span.D) (zsl q3p4_0.nl 2) none), (2, .fn (.func 92) [] []), (7, .lsl 1 0 va6p9_0.length 2 none), (9, .lref 2 0 2 0), (14, .sl a.nl (a.l.map S_Span.D) (zsl a.nl 2) none), (15, I ((a.l.length : Nat) : Int)), (16, I ((i3p4 : Nat) : Int)), (20, .sl q3p4_0.nl (q3p4_0.l.map S_Span.D) (zsl q3p4_0.nl 2) none), (21, I ((q3p4_0.l.length : Nat) : Int)), (22, I ((i6p9 : Nat) : Int))], [(1, ⟨va6p9_0.map S_Span.D, 2, false⟩), (2, ⟨[.agg [I x3p4.lo, I x3p4.hi]], 2, false⟩), (3, ⟨[.agg [I x6p9.lo, I x6p9.hi]], 2, false⟩)], 4, 1⟩

def sd185 (a : GS S_Span) (i3p4 : Nat) (q3p4_0 : GS S_Span) (x3p4 : S_Span) (i6p9 : Nat) (x6p9 : S_Span) (va6p9_0 : List S_Span) : St := ⟨40, [(22, I ((i6p9 + 1 : Nat) : Int)), (37, I ((i6p9 + 1 : Nat) : Int)), (36, B false), (7, .lsl 4 0 ((va6p9_0 ++ (((z6 x3p4 x6p9).1).l)).length) 2 none), (35, .lsl 4 0 ((va6p9_0 ++ (((z6 x3p4 x6p9).1).l)).length) 2 none), (34, .sl (((z6 x3p4 x6p9).1).nl) ((((z6 x3p4 x6p9).1).l).map S_Span.D) (zsl (((z6 x3p4 x6p9).1).nl) 2) none), (33, .lsl 1 0 va6p9_0.length 2 none), (13, B false), (12, .sl (((z6 x3p4 x6p9).1).nl) ((((z6 x3p4 x6p9).1).l).map S_Span.D) (zsl (((z6 x3p4 x6p9).1).nl) 2) none), (32, B false), (31, .sl (((z6 x3p4 x6p9).1).nl) ((((z6 x3p4 x6p9).1).l).map S_Span.D) (zsl (((z6 x3p4 x6p9).1).nl) 2) none), (26, .tup [.sl (((z6 x3p4 x6p9).1).nl) ((((z6 x3p4 x6p9).1).l).map S_Span.D) (zsl (((z6 x3p4 x6p9).1).nl) 2) none, B ((z6 x3p4 x6p9).2)]), (30, .tup [.sl (((z6 x3p4 x6p9).1).nl) ((((z6 x3p4 x6p9).1).l).map S_Span.D) (zsl (((z6 x3p4 x6p9).1).nl) 2) none, B ((z6 x3p4 x6p9).2)]), (29, .agg [I x6p9.lo, I x6p9.hi]), (28, .agg [I x3p4.lo, I x3p4.hi]), (27, .fn (.func 92) [] []), (11, .lref 3 0 2 0), (25, .agg [I x6p9.lo, I x6p9.hi]), (24, .ptr (.agg [I x6p9.lo, I x6p9.hi])), (23, B true), (1, .sl q3p4_0.nl (q3p4_0.l.map S_Span.D) (zsl q3p4_0.nl 2) none), (2, .fn (.func 92) [] []), (7, .lsl 1 0 va6p9_0.length 2 none), (9, .lref 2 0 2 0), (14, .sl a.nl (a.l.map S_Span.D) (zsl a.nl 2) none), (15, I ((a.l.length : Nat) : Int)), (16, I ((i3p4 : Nat) : Int)), (20, .sl q3p4_0.nl (q3p4_0.l.map S_Span.D) (zsl q3p4_0.nl 2) none), (21, I ((q3p4_0.l.length : Nat) : Int)), (22, I ((i6p9 : Nat) : Int))], [(2, ⟨[.agg [I x3p4.lo, I x3p4.hi]], 2, false⟩), (3, ⟨[.agg [I x6p9.lo, I x6p9.hi]], 2, false⟩), (4, ⟨(va6p9_0 ++ (((z6 x3p4 x6p9).1).l)).map S_Span.D, 2, false⟩)], 5, 1⟩

def sd186 (a : GS S_Span) (i3p4 : Nat) (q3p4_0 : GS S_Span) (x3p4 : S_Span) (i6p9 : Nat) (x6p9 : S_Span) : St := ⟨40, [(22, I ((i6p9 + 1 : Nat) : Int)), (37, I ((i6p9 + 1 : Nat) : Int)), (36, B false), (7, .lsl 3 0 ((((z6 x3p4 x6p9).1).l).length) 2 none), (35, .lsl 3 0 ((((z6 x3p4 x6p9).1).l).length) 2 none), (34, .sl (((z6 x3p4 x6p9).1).nl) ((((z6 x3p4 x6p9).1).l).map S_Span.D) (zsl (((z6 x3p4 x6p9).1).nl) 2) none), (33, .sl true [] 0 none), (13, B false), (12, .sl (((z6 x3p4 x6p9).1).nl) ((((z6 x3p4 x6p9).1).l).map S_Span.D) (zsl (((z6 x3p4 x6p9).1).nl) 2) none), (32, B false), (31, .sl (((z6 x3p4 x6p9).1).nl) ((((z6 x3p4 x6p9).1).l).map S_Span.D) (zsl (((z6 x3p4 x6p9).1).nl) 2) none), (26, .tup [.sl (((z6 x3p4 x6p9).1).nl) ((((z6 x3p4 x6p9).1).l).map S_Span.D) (zsl (((z6 x3p4 x6p9).1).nl) 2) none, B ((z6 x3p4 x6p9).2)]), (30, .tup [.sl (((z6 x3p4 x6p9).1).nl) ((((z6 x3p4 x6p9).1).l).map S_Span.D) (zsl (((z6 x3p4 x6p9).1).nl) 2) none, B ((z6 x3p4 x6p9).2)]), (29, .agg [I x6p9.lo, I x6p9.hi]), (28, .agg [I x3p4.lo, I x3p4.hi]), (27, .fn (.func 92) [] []), (11, .lref 2 0 2 0), (25, .agg [I x6p9.lo, I x6p9.hi]), (24, .ptr (.agg [I x6p9.lo, I x6p9.hi])), (23, B true), (1, .sl q3p4_0.nl (q3p4_0.l.map S_Span.D) (zsl q3p4_0.nl 2) none), (2, .fn (.func 92) [] []), (7, .sl true [] 0 none), (9, .lref 1 0 2 0), (14, .sl a.nl (a.l.map S_Span.D) (zsl a.nl 2) none), (15, I ((a.l.length : Nat) : Int)), (16, I ((i3p4 : Nat) : Int)), (20, .sl q3p4_0.nl (q3p4_0.l.map S_Span.D) (zsl q3p4_0.nl 2) none), (21, I ((q3p4_0.l.length : Nat) : Int)), (22, I ((i6p9 : Nat) : Int))], [(1, ⟨[.agg [I x3p4.lo, I x3p4.hi]], 2, false⟩), (2, ⟨[.agg [I x6p9.lo, I x6p9.hi]], 2, false⟩), (3, ⟨(((z6 x3p4 x6p9).1).l).map S_Span.D, 2, false⟩)], 4, 1⟩

inductive LR_ranges_pairs_6p9 where
  | x0 (va6p9_0 : List S_Span)
  | x1 (i6p9 : Nat) (x6p9 : S_Span) (va6p9_0 : List S_Span)
  | x2 (i6p9 : Nat) (x6p9 : S_Span) (va6p9_0 : List S_Span)
  | x3
  | x4 (i6p9 : Nat) (x6p9 : S_Span)
  | x5 (i6p9 : Nat) (x6p9 : S_Span)
instance : Inhabited LR_ranges_pairs_6p9 := ⟨.x0 default⟩
def ranges_pairs_6p9a (x3p4 : S_Span) : List S_Span → Nat → (List S_Span) → LR_ranges_pairs_6p9
  | [], i6p9, va6p9_0 => .x0 va6p9_0
  | x6p9 :: rest6p9, i6p9, va6p9_0 =>
    bif ((z6 x3p4 x6p9).2) then
      bif (((z6 x3p4 x6p9).1).l).isEmpty then
        .x1 i6p9 x6p9 va6p9_0
      else
        .x2 i6p9 x6p9 va6p9_0
    else
      bif (((z6 x3p4 x6p9).1).l).isEmpty then
        ranges_pairs_6p9a x3p4 rest6p9 (i6p9 + 1) va6p9_0
      else
        ranges_pairs_6p9a x3p4 rest6p9 (i6p9 + 1) (va6p9_0 ++ (((z6 x3p4 x6p9).1).l))
def ranges_pairs_6p9 (x3p4 : S_Span) : List S_Span → Nat → LR_ranges_pairs_6p9
  | [], i6p9 => .x3
  | x6p9 :: rest6p9, i6p9 =>
    bif ((z6 x3p4 x6p9).2) then
      bif (((z6 x3p4 x6p9).1).l).isEmpty then
        .x4 i6p9 x6p9
      else
        .x5 i6p9 x6p9
    else
      bif (((z6 x3p4 x6p9).1).l).isEmpty then
        ranges_pairs_6p9 x3p4 rest6p9 (i6p9 + 1)
      else
        ranges_pairs_6p9a x3p4 rest6p9 (i6p9 + 1) (((z6 x3p4 x6p9).1).l)
def lr_ranges_pairs_6p9 (a : GS S_Span) (i3p4 : Nat) (q3p4_0 : GS S_Span) (x3p4 : S_Span) : LR_ranges_pairs_6p9 → Exit × St
  | .x0 va6p9_0 => ((.exit 2), ⟨40, [(23, B false), (1, .sl q3p4_0.nl (q3p4_0.l.map S_Span.D) (zsl q3p4_0.nl 2) none), (2, .fn (.func 92) [] []), (7, .lsl 1 0 va6p9_0.length 2 none), (9, .lref 2 0 2 0), (14, .sl a.nl (a.l.map S_Span.D) (zsl a.nl 2) none), (15, I ((a.l.length : Nat) : Int)), (16, I ((i3p4 : Nat) : Int)), (20, .sl q3p4_0.nl (q3p4_0.l.map S_Span.D) (zsl q3p4_0.nl 2) none), (21, I ((q3p4_0.l.length : Nat) : Int)), (22, I ((q3p4_0.l.length : Nat) : Int))], [(1, ⟨va6p9_0.map S_Span.D, 2, false⟩), (2, ⟨[.agg [I x3p4.lo, I x3p4.hi]], 2, false⟩)], 3, 1⟩)
  | .x1 i6p9 x6p9 va6p9_0 => ((.exit 0), ⟨40, [(36, B true), (7, .lsl 1 0 va6p9_0.length 2 none), (35, .lsl 1 0 va6p9_0.length 2 none), (34, .sl (((z6 x3p4 x6p9).1).nl) ((((z6 x3p4 x6p9).1).l).map S_Span.D) (zsl (((z6 x3p4 x6p9).1).nl) 2) none), (33, .lsl 1 0 va6p9_0.length 2 none), (13, B true), (12, .sl (((z6 x3p4 x6p9).1).nl) ((((z6 x3p4 x6p9).1).l).map S_Span.D) (zsl (((z6 x3p4 x6p9).1).nl) 2) none), (32, B true), (31, .sl (((z6 x3p4 x6p9).1).nl) ((((z6 x3p4 x6p9).1).l).map S_Span.D) (zsl (((z6 x3p4 x6p9).1).nl) 2) none), (26, .tup [.sl (((z6 x3p4 x6p9).1).nl) ((((z6 x3p4 x6p9).1).l).map S_Span.D) (zsl (((z6 x3p4 x6p9).1).nl) 2) none, B ((z6 x3p4 x6p9).2)]), (30, .tup [.sl (((z6 x3p4 x6p9).1).nl) ((((z6 x3p4 x6p9).1).l).map S_Span.D) (zsl (((z6 x3p4 x6p9).1).nl) 2) none, B ((z6 x3p4 x6p9).2)]), (29, .agg [I x6p9.lo, I x6p9.hi]), (28, .agg [I x3p4.lo, I x3p4.hi]), (27, .fn (.func 92) [] []), (11, .lref 3 0 2 0), (25, .agg [I x6p9.lo, I x6p9.hi]), (24, .ptr (.agg [I x6p9.lo, I x6p9.hi])), (23, B true), (1, .sl q3p4_0.nl (q3p4_0.l.map S_Span.D) (zsl q3p4_0.nl 2) none), (2, .fn (.func 92) [] []), (7, .lsl 1 0 va6p9_0.length 2 none), (9, .lref 2 0 2 0), (14, .sl a.nl (a.l.map S_Span.D) (zsl a.nl 2) none), (15, I ((a.l.length : Nat) : Int)), (16, I ((i3p4 : Nat) : Int)), (20, .sl q3p4_0.nl (q3p4_0.l.map S_Span.D) (zsl q3p4_0.nl 2) none), (21, I ((q3p4_0.l.length : Nat) : Int)), (22, I ((i6p9 : Nat) : Int))], [(1, ⟨va6p9_0.map S_Span.D, 2, false⟩), (2, ⟨[.agg [I x3p4.lo, I x3p4.hi]], 2, false⟩), (3, ⟨[.agg [I x6p9.lo, I x6p9.hi]], 2, false⟩)], 4, 1⟩)
  | .x2 i6p9 x6p9 va6p9_0 => ((.exit 0), ⟨40, [(36, B true), (7, .lsl 4 0 ((va6p9_0 ++ (((z6 x3p4 x6p9).1).l)).length) 2 none), (35, .lsl 4 0 ((va6p9_0 ++ (((z6 x3p4 x6p9).1).l)).length) 2 none), (34, .sl (((z6 x3p4 x6p9).1).nl) ((((z6 x3p4 x6p9).1).l).map S_Span.D) (zsl (((z6 x3p4 x6p9).1).nl) 2) none), (33, .lsl 1 0 va6p9_0.length 2 none), (13, B true), (12, .sl (((z6 x3p4 x6p9).1).nl) ((((z6 x3p4 x6p9).1).l).map S_Span.D) (zsl (((z6 x3p4 x6p9).1).nl) 2) none), (32, B true), (31, .sl (((z6 x3p4 x6p9).1).nl) ((((z6 x3p4 x6p9).1).l).map S_Span.D) (zsl (((z6 x3p4 x6p9).1).nl) 2) none), (26, .tup [.sl (((z6 x3p4 x6p9).1).nl) ((((z6 x3p4 x6p9).1).l).map S_Span.D) (zsl (((z6 x3p4 x6p9).1).nl) 2) none, B ((z6 x3p4 x6p9).2)]), (30, .tup [.sl (((z6 x3p4 x6p9).1).nl) ((((z6 x3p4 x6p9).1).l).map S_Span.D) (zsl (((z6 x3p4 x6p9).1).nl) 2) none, B ((z6 x3p4 x6p9).2)]), (29, .agg [I x6p9.lo, I x6p9.hi]), (28, .agg [I x3p4.lo, I x3p4.hi]), (27, .fn (.func 92) [] []), (11, .lref 3 0 2 0), (25, .agg [I x6p9.lo, I x6p9.hi]), (24, .ptr (.agg [I x6p9.lo, I x6p9.hi])), (23, B true), (1, .sl q3p4_0.nl (q3p4_0.l.map S_Span.D) (zsl q3p4_0.nl 2) none), (2, .fn (.func 92) [] []), (7, .lsl 1 0 va6p9_0.length 2 none), (9, .lref 2 0 2 0), (14, .sl a.nl (a.l.map S_Span.D) (zsl a.nl 2) none), (15, I ((a.l.length : Nat) : Int)), (16, I ((i3p4 : Nat) : Int)), (20, .sl q3p4_0.nl (q3p4_0.l.map S_Span.D) (zsl q3p4_0.nl 2) none), (21, I ((q3p4_0.l.length : Nat) : Int)), (22, I ((i6p9 : Nat) : Int))], [(2, ⟨[.agg [I x3p4.lo, I x3p4.hi]], 2, false⟩), (3, ⟨[.agg [I x6p9.lo, I x6p9.hi]], 2, false⟩), (4, ⟨(va6p9_0 ++ (((z6 x3p4 x6p9).1).l)).map S_Span.D, 2, false⟩)], 5, 1⟩)
  | .x3 => ((.exit 2), ⟨40, [(23, B false), (1, .sl q3p4_0.nl (q3p4_0.l.map S_Span.D) (zsl q3p4_0.nl 2) none), (2, .fn (.func 92) [] []), (7, .sl true [] 0 none), (9, .lref 1 0 2 0), (14, .sl a.nl (a.l.map S_Span.D) (zsl a.nl 2) none), (15, I ((a.l.length : Nat) : Int)), (16, I ((i3p4 : Nat) : Int)), (20, .sl q3p4_0.nl (q3p4_0.l.map S_Span.D) (zsl q3p4_0.nl 2) none), (21, I ((q3p4_0.l.length : Nat) : Int)), (22, I ((q3p4_0.l.length : Nat) : Int))], [(1, ⟨[.agg [I x3p4.lo, I x3p4.hi]], 2, false⟩)], 2, 1⟩)
  | .x4 i6p9 x6p9 => ((.exit 0), ⟨40, [(36, B true), (7, .sl true [] 0 none), (35, .sl true [] 0 none), (34, .sl (((z6 x3p4 x6p9).1).nl) ((((z6 x3p4 x6p9).1).l).map S_Span.D) (zsl (((z6 x3p4 x6p9).1).nl) 2) none), (33, .sl true [] 0 none), (13, B true), (12, .sl (((z6 x3p4 x6p9).1).nl) ((((z6 x3p4 x6p9).1).l).map S_Span.D) (zsl (((z6 x3p4 x6p9).1).nl) 2) none), (32, B true), (31, .sl (((z6 x3p4 x6p9).1).nl) ((((z6 x3p4 x6p9).1).l).map S_Span.D) (zsl (((z6 x3p4 x6p9).1).nl) 2) none), (26, .tup [.sl (((z6 x3p4 x6p9).1).nl) ((((z6 x3p4 x6p9).1).l).map S_Span.D) (zsl (((z6 x3p4 x6p9).1).nl) 2) none, B ((z6 x3p4 x6p9).2)]), (30, .tup [.sl (((z6 x3p4 x6p9).1).nl) ((((z6 x3p4 x6p9).1).l).map S_Span.D) (zsl (((z6 x3p4 x6p9).1).nl) 2) none, B ((z6 x3p4 x6p9).2)]), (29, .agg [I x6p9.lo, I x6p9.hi]), (28, .agg [I x3p4.lo, I x3p4.hi]), (27, .fn (.func 92) [] []), (11, .lref 2 0 2 0), (25, .agg [I x6p9.lo, I x6p9.hi]), (24, .ptr (.agg [I x6p9.lo, I x6p9.hi])), (23, B true), (1, .sl q3p4_0.nl (q3p4_0.l.map S_Span.D) (zsl q3p4_0.nl 2) none), (2, .fn (.func 92) [] []), (7, .sl true [] 0 none), (9, .lref 1 0 2 0), (14, .sl a.nl (a.l.map S_Span.D) (zsl a.nl 2) none), (15, I ((a.l.length : Nat) : Int)), (16, I ((i3p4 : Nat) : Int)), (20, .sl q3p4_0.nl (q3p4_0.l.map S_Span.D) (zsl q3p4_0.nl 2) none), (21, I ((q3p4_0.l.length : Nat) : Int)), (22, I ((i6p9 : Nat) : Int))], [(1, ⟨[.agg [I x3p4.lo, I x3p4.hi]], 2, false⟩), (2, ⟨[.agg [I x6p9.lo, I x6p9.hi]], 2, false⟩)], 3, 1⟩)
  | .x5 i6p9 x6p9 => ((.exit 0), ⟨40, [(36, B true), (7, .lsl 3 0 ((((z6 x3p4 x6p9).1).l).length) 2 none), (35, .lsl 3 0 ((((z6 x3p4 x6p9).1).l).length) 2 none), (34, .sl (((z6 x3p4 x6p9).1).nl) ((((z6 x3p4 x6p9).1).l).map S_Span.D) (zsl (((z6 x3p4 x6p9).1).nl) 2) none), (33, .sl true [] 0 none), (13, B true), (12, .sl (((z6 x3p4 x6p9).1).nl) ((((z6 x3p4 x6p9).1).l).map S_Span.D) (zsl (((z6 x3p4 x6p9).1).nl) 2) none), (32, B true), (31, .sl (((z6 x3p4 x6p9).1).nl) ((((z6 x3p4 x6p9).1).l).map S_Span.D) (zsl (((z6 x3p4 x6p9).1).nl) 2) none), (26, .tup [.sl (((z6 x3p4 x6p9).1).nl) ((((z6 x3p4 x6p9).1).l).map S_Span.D) (zsl (((z6 x3p4 x6p9).1).nl) 2) none, B ((z6 x3p4 x6p9).2)]), (30, .tup [.sl (((z6 x3p4 x6p9).1).nl) ((((z6 x3p4 x6p9).1).l).map S_Span.D) (zsl (((z6 x3p4 x6p9).1).nl) 2) none, B ((z6 x3p4 x6p9).2)]), (29, .agg [I x6p9.lo, I x6p9.hi]), (28, .agg [I x3p4.lo, I x3p4.hi]), (27, .fn (.func 92) [] []), (11, .lref 2 0 2 0), (25, .agg [I x6p9.lo, I x6p9.hi]), (24, .ptr (.agg [I x6p9.lo, I x6p9.hi])), (23, B true), (1, .sl q3p4_0.nl (q3p4_0.l.map S_Span.D) (zsl q3p4_0.nl 2) none), (2, .fn (.func 92) [] []), (7, .sl true [] 0 none), (9, .lref 1 0 2 0), (14, .sl a.nl (a.l.map S_Span.D) (zsl a.nl 2) none), (15, I ((a.l.length : Nat) : Int)), (16, I ((i3p4 : Nat) : Int)), (20, .sl q3p4_0.nl (q3p4_0.l.map S_Span.D) (zsl q3p4_0.nl 2) none), (21, I ((q3p4_0.l.length : Nat) : Int)), (22, I ((i6p9 : Nat) : Int))], [(1, ⟨[.agg [I x3p4.lo, I x3p4.hi]], 2, false⟩), (2, ⟨[.agg [I x6p9.lo, I x6p9.hi]], 2, false⟩), (3, ⟨(((z6 x3p4 x6p9).1).l).map S_Span.D, 2, false⟩)], 4, 1⟩)
def iv_ranges_pairs_6p9 (a : GS S_Span) (i3p4 : Nat) (q3p4_0 : GS S_Span) (x3p4 : S_Span) : LR_ranges_pairs_6p9 → Prop
  | .x0 va6p9_0 => (va6p9_0.length ≤ 65 * i3p4 + q3p4_0.l.length)
  | .x1 i6p9 x6p9 va6p9_0 => (va6p9_0.length ≤ 65 * i3p4 + i6p9)
  | .x2 i6p9 x6p9 va6p9_0 => (va6p9_0.length ≤ 65 * i3p4 + i6p9)
  | .x3 => True
  | .x4 i6p9 x6p9 => True
  | .x5 i6p9 x6p9 => True
def ranges_pairs_6p9a_l_o1 (x3p4 : S_Span) (x6p9 : S_Span) : List Ora := [.dec true, .el (.agg [I x6p9.lo, I x6p9.hi]), .pure (.tup [.sl (((z6 x3p4 x6p9).1).nl) ((((z6 x3p4 x6p9).1).l).map S_Span.D) (zsl (((z6 x3p4 x6p9).1).nl) 2) none, B ((z6 x3p4 x6p9).2)])]
theorem lp_ranges_pairs_6p9a (a : GS S_Span) (i3p4 : Nat) (q3p4_0 : GS S_Span) (x3p4 : S_Span) : ∀ (rest6p9 : List S_Span) (i6p9 : Nat) (va6p9_0 : List S_Span) (hd6p9 : q3p4_0.l.drop i6p9 = rest6p9) (hi6p9 : i6p9 ≤ q3p4_0.l.length) (hb65 : q3p4_0.l.length ≤ 65) (ho64 : i3p4 < 64) (hg6p9_va6p9_0 : va6p9_0.length ≤ 65 * i3p4 + i6p9) (hL6p9 : q3p4_0.l.length ≤ 1099511627776), (lim cfg).loop 87 lp87_6 ⟨40, [(1, .sl q3p4_0.nl (q3p4_0.l.map S_Span.D) (zsl q3p4_0.nl 2) none), (2, .fn (.func 92) [] []), (7, .lsl 1 0 va6p9_0.length 2 none), (9, .lref 2 0 2 0), (14, .sl a.nl (a.l.map S_Span.D) (zsl a.nl 2) none), (15, I ((a.l.length : Nat) : Int)), (16, I ((i3p4 : Nat) : Int)), (20, .sl q3p4_0.nl (q3p4_0.l.map S_Span.D) (zsl q3p4_0.nl 2) none), (21, I ((q3p4_0.l.length : Nat) : Int)), (22, I ((i6p9 : Nat) : Int))], [(1, ⟨va6p9_0.map S_Span.D, 2, false⟩), (2, ⟨[.agg [I x3p4.lo, I x3p4.hi]], 2, false⟩)], 3, 1⟩ = some (lr_ranges_pairs_6p9 a i3p4 q3p4_0 x3p4 (ranges_pairs_6p9a x3p4 rest6p9 i6p9 va6p9_0)) := by
  intro rest6p9
  induction rest6p9 with
  | nil =>
    intro i6p9 va6p9_0 hd6p9 hi6p9 hb65 ho64 hg6p9_va6p9_0 hL6p9
    unfold ranges_pairs_6p9a
    obtain rfl : i6p9 = q3p4_0.l.length := nil_eq hd6p9 hi6p9
    exact zF [.dec false] (And.intro (lt_no hd6p9) trivial) (by kernel_rfl)
  | cons x6p9 rest6p9 ih =>
    intro i6p9 va6p9_0 hd6p9 hi6p9 hb65 ho64 hg6p9_va6p9_0 hL6p9
    have hlt6p9 := ze hd6p9
    have hlx := within1_len x3p4 x6p9
    unfold ranges_pairs_6p9a
    have p1 := (el_at (s := q3p4_0) (f := S_Span.D) (k := 2) hd6p9)
    cases h35 : ((z6 x3p4 x6p9).2) with
    | true =>
      cases h36 : (((z6 x3p4 x6p9).1).l).isEmpty with
      | true =>
        exact zF ((ranges_pairs_6p9a_l_o1 x3p4 x6p9) ++ [.dec true, .op (some 35) ⟨.lsl 1 0 va6p9_0.length 2 none, [], [], 4⟩]) (And.intro (app_none (te := ty25) (gO := zr [(1, ⟨va6p9_0.map S_Span.D, 2, false⟩), (2, ⟨[.agg [I x3p4.lo, I x3p4.hi]], 2, false⟩), (3, ⟨[.agg [I x6p9.lo, I x6p9.hi]], 2, false⟩)]) (nxt := 4) (f := S_Span.D) (sz := 2) (d := .lsl 1 0 va6p9_0.length 2 none) ((z6 x3p4 x6p9).1) h36 rfl) (And.intro h35 (And.intro (T_ranges_Within_1 x3p4 x6p9) (And.intro p1 (And.intro (lt_at hd6p9) trivial))))) (by kernel_rfl)
      | false =>
        exact zF ((ranges_pairs_6p9a_l_o1 x3p4 x6p9) ++ [.dec true, .op (some 35) ⟨.lsl 4 0 ((va6p9_0 ++ (((z6 x3p4 x6p9).1).l)).length) 2 none, [(1, none), (4, some ⟨(va6p9_0 ++ (((z6 x3p4 x6p9).1).l)).map S_Span.D, 2, false⟩)], [1], 5⟩]) (And.intro (app_moreD (te := ty25) (gO := zr [(1, ⟨va6p9_0.map S_Span.D, 2, false⟩), (2, ⟨[.agg [I x3p4.lo, I x3p4.hi]], 2, false⟩), (3, ⟨[.agg [I x6p9.lo, I x6p9.hi]], 2, false⟩)]) (nxt := 4) (o := 1) (v := va6p9_0) z8 ((z6 x3p4 x6p9).1) h36 (by kernel_rfl) rfl (by kernel_rfl) (by decide) ⟨by simp only [ty25, big] <;> (first | assumption | omega | (exact two_bd (by omega) (by omega)) | (exact add_some (by omega)) | (exact add_some' (by omega)) | (exact one_some (by omega)) | (exact one_some' (by omega)) | (exact zC _ (by omega)) | (simp only [zm] at * <;> omega) | (simp only [srtL, GS.some_l, List.length_set, List.length_append, List.length_cons, List.length_nil] at * <;> first | with_reducible assumption | omega) | (simp only [srtL, GS.some_l, List.length_set, List.length_append, List.length_cons, List.length_nil, zm] at * <;> first | with_reducible assumption | omega) | (simp at * <;> omega)), by simp only [big] <;> (first | assumption | omega | (exact two_bd (by omega) (by omega)) | (exact add_some (by omega)) | (exact add_some' (by omega)) | (exact one_some (by omega)) | (exact one_some' (by omega)) | (exact zC _ (by omega)) | (simp only [zm] at * <;> omega) | (simp only [srtL, GS.some_l, List.length_set, List.length_append, List.length_cons, List.length_nil] at * <;> first | with_reducible assumption | omega) | (simp only [srtL, GS.some_l, List.length_set, List.length_append, List.length_cons, List.length_nil, zm] at * <;> first | with_reducible assumption | omega) | (simp at * <;> omega))⟩) (And.intro h35 (And.intro (T_ranges_Within_1 x3p4 x6p9) (And.intro p1 (And.intro (lt_at hd6p9) trivial))))) (by kernel_rfl)
    | false =>
      cases h37 : (((z6 x3p4 x6p9).1).l).isEmpty with
      | true =>
        exact po_turn' (ks := [1, 2, 7, 9, 14, 15, 16, 20, 21, 22]) (st' := (sd184 a i3p4 q3p4_0 x3p4 i6p9 x6p9 va6p9_0)) ((ranges_pairs_6p9a_l_o1 x3p4 x6p9) ++ [.dec false, .op (some 35) ⟨.lsl 1 0 va6p9_0.length 2 none, [], [], 4⟩, .rw 37 (I ((i6p9 + 1 : Nat) : Int))]) (And.intro (inc_rw (i := i6p9) (by have := ze hd6p9; omega)) (And.intro (app_none (te := ty25) (gO := zr [(1, ⟨va6p9_0.map S_Span.D, 2, false⟩), (2, ⟨[.agg [I x3p4.lo, I x3p4.hi]], 2, false⟩), (3, ⟨[.agg [I x6p9.lo, I x6p9.hi]], 2, false⟩)]) (nxt := 4) (f := S_Span.D) (sz := 2) (d := .lsl 1 0 va6p9_0.length 2 none) ((z6 x3p4 x6p9).1) h37 rfl) (And.intro h35 (And.intro (T_ranges_Within_1 x3p4 x6p9) (And.intro p1 (And.intro (lt_at hd6p9) trivial)))))) (by kernel_rfl) (by (simp only [sd184, go_sem, List.length_set, Nat.reduceAdd, Nat.reduceEqDiff, Nat.reduceLT, Nat.reduceLeDiff, bI2, zl.idsL, zl.renL, zl.snapAll, z8.idsL, z8.renL, z8.snapAll]) <;> rfl) (ih (i6p9 + 1) va6p9_0 (zg hd6p9) (ze hd6p9) (by omega) (by omega) (by omega) (by omega)) (by kernel_rfl)
      | false =>
        exact po_turn' (ks := [1, 2, 7, 9, 14, 15, 16, 20, 21, 22]) (st' := (sd185 a i3p4 q3p4_0 x3p4 i6p9 x6p9 va6p9_0)) ((ranges_pairs_6p9a_l_o1 x3p4 x6p9) ++ [.dec false, .op (some 35) ⟨.lsl 4 0 ((va6p9_0 ++ (((z6 x3p4 x6p9).1).l)).length) 2 none, [(1, none), (4, some ⟨(va6p9_0 ++ (((z6 x3p4 x6p9).1).l)).map S_Span.D, 2, false⟩)], [1], 5⟩, .rw 37 (I ((i6p9 + 1 : Nat) : Int))]) (And.intro (inc_rw (i := i6p9) (by have := ze hd6p9; omega)) (And.intro (app_moreD (te := ty25) (gO := zr [(1, ⟨va6p9_0.map S_Span.D, 2, false⟩), (2, ⟨[.agg [I x3p4.lo, I x3p4.hi]], 2, false⟩), (3, ⟨[.agg [I x6p9.lo, I x6p9.hi]], 2, false⟩)]) (nxt := 4) (o := 1) (v := va6p9_0) z8 ((z6 x3p4 x6p9).1) h37 (by kernel_rfl) rfl (by kernel_rfl) (by decide) ⟨by simp only [ty25, big] <;> (first | assumption | omega | (exact two_bd (by omega) (by omega)) | (exact add_some (by omega)) | (exact add_some' (by omega)) | (exact one_some (by omega)) | (exact one_some' (by omega)) | (exact zC _ (by omega)) | (simp only [zm] at * <;> omega) | (simp only [srtL, GS.some_l, List.length_set, List.length_append, List.length_cons, List.length_nil] at * <;> first | with_reducible assumption | omega) | (simp only [srtL, GS.some_l, List.length_set, List.length_append, List.length_cons, List.length_nil, zm] at * <;> first | with_reducible assumption | omega) | (simp at * <;> omega)), by simp only [big] <;> (first | assumption | omega | (exact two_bd (by omega) (by omega)) | (exact add_some (by omega)) | (exact add_some' (by omega)) | (exact one_some (by omega)) | (exact one_some' (by omega)) | (exact zC _ (by omega)) | (simp only [zm] at * <;> omega) | (simp only [srtL, GS.some_l, List.length_set, List.length_append, List.length_cons, List.length_nil] at * <;> first | with_reducible assumption | omega) | (simp only [srtL, GS.some_l, List.length_set, List.length_append, List.length_cons, List.length_nil, zm] at * <;> first | with_reducible assumption | omega) | (simp at * <;> omega))⟩) (And.intro h35 (And.intro (T_ranges_Within_1 x3p4 x6p9) (And.intro p1 (And.intro (lt_at hd6p9) trivial)))))) (by kernel_rfl) (by (simp only [sd185, go_sem, List.length_set, Nat.reduceAdd, Nat.reduceEqDiff, Nat.reduceLT, Nat.reduceLeDiff, bI2, zl.idsL, zl.renL, zl.snapAll, z8.idsL, z8.renL, z8.snapAll]) <;> rfl) (ih (i6p9 + 1) (va6p9_0 ++ (((z6 x3p4 x6p9).1).l)) (zg hd6p9) (ze hd6p9) (by omega) (by omega) (by simp only [List.length_append, List.length_cons, List.length_nil] at * <;> omega) (by omega)) (by kernel_rfl)
theorem ivt_ranges_pairs_6p9a (a : GS S_Span) (i3p4 : Nat) (q3p4_0 : GS S_Span) (x3p4 : S_Span) : ∀ (rest6p9 : List S_Span) (i6p9 : Nat) (va6p9_0 : List S_Span) (hd6p9 : q3p4_0.l.drop i6p9 = rest6p9) (hi6p9 : i6p9 ≤ q3p4_0.l.length) (hb65 : q3p4_0.l.length ≤ 65) (ho64 : i3p4 < 64) (hg6p9_va6p9_0 : va6p9_0.length ≤ 65 * i3p4 + i6p9) (hL6p9 : q3p4_0.l.length ≤ 1099511627776), iv_ranges_pairs_6p9 a i3p4 q3p4_0 x3p4 (ranges_pairs_6p9a x3p4 rest6p9 i6p9 va6p9_0) := by
  intro rest6p9
  induction rest6p9 with
  | nil =>
    intro i6p9 va6p9_0 hd6p9 hi6p9 hb65 ho64 hg6p9_va6p9_0 hL6p9
    unfold ranges_pairs_6p9a
    obtain rfl : i6p9 = q3p4_0.l.length := nil_eq hd6p9 hi6p9
    exact hg6p9_va6p9_0
  | cons x6p9 rest6p9 ih =>
    intro i6p9 va6p9_0 hd6p9 hi6p9 hb65 ho64 hg6p9_va6p9_0 hL6p9
    have hlt6p9 := ze hd6p9
    have hlx := within1_len x3p4 x6p9
    unfold ranges_pairs_6p9a
    cases h35 : ((z6 x3p4 x6p9).2) with
    | true =>
      cases h36 : (((z6 x3p4 x6p9).1).l).isEmpty with
      | true =>
        exact hg6p9_va6p9_0
      | false =>
        exact hg6p9_va6p9_0
    | false =>
      cases h37 : (((z6 x3p4 x6p9).1).l).isEmpty with
      | true =>
        exact ih (i6p9 + 1) va6p9_0 (zg hd6p9) (ze hd6p9) (by omega) (by omega) (by omega) (by omega)
      | false =>
        exact ih (i6p9 + 1) (va6p9_0 ++ (((z6 x3p4 x6p9).1).l)) (zg hd6p9) (ze hd6p9) (by omega) (by omega) (by simp only [List.length_append, List.length_cons, List.length_nil] at * <;> omega) (by omega)
def ranges_pairs_6p9_l_o1 (x3p4 : S_Span) (x6p9 : S_Span) : List Ora := [.dec true, .el (.agg [I x6p9.lo, I x6p9.hi]), .pure (.tup [.sl (((z6 x3p4 x6p9).1).nl) ((((z6 x3p4 x6p9).1).l).map S_Span.D) (zsl (((z6 x3p4 x6p9).1).nl) 2) none, B ((z6 x3p4 x6p9).2)])]
theorem lp_ranges_pairs_6p9 (a : GS S_Span) (i3p4 : Nat) (q3p4_0 : GS S_Span) (x3p4 : S_Span) : ∀ (rest6p9 : List S_Span) (i6p9 : Nat) (hd6p9 : q3p4_0.l.drop i6p9 = rest6p9) (hi6p9 : i6p9 ≤ q3p4_0.l.length) (hb65 : q3p4_0.l.length ≤ 65) (ho64 : i3p4 < 64) (hL6p9 : q3p4_0.l.length ≤ 1099511627776), (lim cfg).loop 87 lp87_6 ⟨40, [(1, .sl q3p4_0.nl (q3p4_0.l.map S_Span.D) (zsl q3p4_0.nl 2) none), (2, .fn (.func 92) [] []), (7, .sl true [] 0 none), (9, .lref 1 0 2 0), (14, .sl a.nl (a.l.map S_Span.D) (zsl a.nl 2) none), (15, I ((a.l.length : Nat) : Int)), (16, I ((i3p4 : Nat) : Int)), (20, .sl q3p4_0.nl (q3p4_0.l.map S_Span.D) (zsl q3p4_0.nl 2) none), (21, I ((q3p4_0.l.length : Nat) : Int)), (22, I ((i6p9 : Nat) : Int))], [(1, ⟨[.agg [I x3p4.lo, I x3p4.hi]], 2, false⟩)], 2, 1⟩ = some (lr_ranges_pairs_6p9 a i3p4 q3p4_0 x3p4 (ranges_pairs_6p9 x3p4 rest6p9 i6p9)) := by
  intro rest6p9
  induction rest6p9 with
  | nil =>
    intro i6p9 hd6p9 hi6p9 hb65 ho64 hL6p9
    unfold ranges_pairs_6p9
    obtain rfl : i6p9 = q3p4_0.l.length := nil_eq hd6p9 hi6p9
    exact zF [.dec false] (And.intro (lt_no hd6p9) trivial) (by kernel_rfl)
  | cons x6p9 rest6p9 ih =>
    intro i6p9 hd6p9 hi6p9 hb65 ho64 hL6p9
    have hlt6p9 := ze hd6p9
    have hlx := within1_len x3p4 x6p9
    unfold ranges_pairs_6p9
    have p1 := (el_at (s := q3p4_0) (f := S_Span.D) (k := 2) hd6p9)
    cases h38 : ((z6 x3p4 x6p9).2) with
    | true =>
      cases h39 : (((z6 x3p4 x6p9).1).l).isEmpty with
      | true =>
        exact zF ((ranges_pairs_6p9_l_o1 x3p4 x6p9) ++ [.dec true, .op (some 35) ⟨.sl true [] 0 none, [], [], 3⟩]) (And.intro (app_none (te := ty25) (gO := zr [(1, ⟨[.agg [I x3p4.lo, I x3p4.hi]], 2, false⟩), (2, ⟨[.agg [I x6p9.lo, I x6p9.hi]], 2, false⟩)]) (nxt := 3) (f := S_Span.D) (sz := 2) (d := .sl true [] 0 none) ((z6 x3p4 x6p9).1) h39 rfl) (And.intro h38 (And.intro (T_ranges_Within_1 x3p4 x6p9) (And.intro p1 (And.intro (lt_at hd6p9) trivial))))) (by kernel_rfl)
      | false =>
        exact zF ((ranges_pairs_6p9_l_o1 x3p4 x6p9) ++ [.dec true, .op (some 35) ⟨.lsl 3 0 ((((z6 x3p4 x6p9).1).l).length) 2 none, [(3, some ⟨(((z6 x3p4 x6p9).1).l).map S_Span.D, 2, false⟩)], [], 4⟩]) (And.intro (app_newD (te := ty25) (gO := zr [(1, ⟨[.agg [I x3p4.lo, I x3p4.hi]], 2, false⟩), (2, ⟨[.agg [I x6p9.lo, I x6p9.hi]], 2, false⟩)]) (nxt := 3) (els0 := []) (sz0 := 0) (cap0 := none) z8 ((z6 x3p4 x6p9).1) h39 rfl (by kernel_rfl) (by decide) ⟨by simp only [ty25, big] <;> (first | assumption | omega | (exact two_bd (by omega) (by omega)) | (exact add_some (by omega)) | (exact add_some' (by omega)) | (exact one_some (by omega)) | (exact one_some' (by omega)) | (exact zC _ (by omega)) | (simp only [zm] at * <;> omega) | (simp only [srtL, GS.some_l, List.length_set, List.length_append, List.length_cons, List.length_nil] at * <;> first | with_reducible assumption | omega) | (simp only [srtL, GS.some_l, List.length_set, List.length_append, List.length_cons, List.length_nil, zm] at * <;> first | with_reducible assumption | omega) | (simp at * <;> omega)), by simp only [big] <;> (first | assumption | omega | (exact two_bd (by omega) (by omega)) | (exact add_some (by omega)) | (exact add_some' (by omega)) | (exact one_some (by omega)) | (exact one_some' (by omega)) | (exact zC _ (by omega)) | (simp only [zm] at * <;> omega) | (simp only [srtL, GS.some_l, List.length_set, List.length_append, List.length_cons, List.length_nil] at * <;> first | with_reducible assumption | omega) | (simp only [srtL, GS.some_l, List.length_set, List.length_append, List.length_cons, List.length_nil, zm] at * <;> first | with_reducible assumption | omega) | (simp at * <;> omega))⟩) (And.intro h38 (And.intro (T_ranges_Within_1 x3p4 x6p9) (And.intro p1 (And.intro (lt_at hd6p9) trivial))))) (by kernel_rfl)
    | false =>
      cases h40 : (((z6 x3p4 x6p9).1).l).isEmpty with
      | true =>
        exact po_turn ((ranges_pairs_6p9_l_o1 x3p4 x6p9) ++ [.dec false, .op (some 35) ⟨.sl true [] 0 none, [], [], 3⟩, .rw 37 (I ((i6p9 + 1 : Nat) : Int))]) (And.intro (inc_rw (i := i6p9) (by have := ze hd6p9; omega)) (And.intro (app_none (te := ty25) (gO := zr [(1, ⟨[.agg [I x3p4.lo, I x3p4.hi]], 2, false⟩), (2, ⟨[.agg [I x6p9.lo, I x6p9.hi]], 2, false⟩)]) (nxt := 3) (f := S_Span.D) (sz := 2) (d := .sl true [] 0 none) ((z6 x3p4 x6p9).1) h40 rfl) (And.intro h38 (And.intro (T_ranges_Within_1 x3p4 x6p9) (And.intro p1 (And.intro (lt_at hd6p9) trivial)))))) (ih (i6p9 + 1) (zg hd6p9) (ze hd6p9) (by omega) (by omega) (by omega)) (by kernel_rfl)
      | false =>
        exact po_turn' (ks := [1, 2, 7, 9, 14, 15, 16, 20, 21, 22]) (st' := (sd186 a i3p4 q3p4_0 x3p4 i6p9 x6p9)) ((ranges_pairs_6p9_l_o1 x3p4 x6p9) ++ [.dec false, .op (some 35) ⟨.lsl 3 0 ((((z6 x3p4 x6p9).1).l).length) 2 none, [(3, some ⟨(((z6 x3p4 x6p9).1).l).map S_Span.D, 2, false⟩)], [], 4⟩, .rw 37 (I ((i6p9 + 1 : Nat) : Int))]) (And.intro (inc_rw (i := i6p9) (by have := ze hd6p9; omega)) (And.intro (app_newD (te := ty25) (gO := zr [(1, ⟨[.agg [I x3p4.lo, I x3p4.hi]], 2, false⟩), (2, ⟨[.agg [I x6p9.lo, I x6p9.hi]], 2, false⟩)]) (nxt := 3) (els0 := []) (sz0 := 0) (cap0 := none) z8 ((z6 x3p4 x6p9).1) h40 rfl (by kernel_rfl) (by decide) ⟨by simp only [ty25, big] <;> (first | assumption | omega | (exact two_bd (by omega) (by omega)) | (exact add_some (by omega)) | (exact add_some' (by omega)) | (exact one_some (by omega)) | (exact one_some' (by omega)) | (exact zC _ (by omega)) | (simp only [zm] at * <;> omega) | (simp only [srtL, GS.some_l, List.length_set, List.length_append, List.length_cons, List.length_nil] at * <;> first | with_reducible assumption | omega) | (simp only [srtL, GS.some_l, List.length_set, List.length_append, List.length_cons, List.length_nil, zm] at * <;> first | with_reducible assumption | omega) | (simp at * <;> omega)), by simp only [big] <;> (first | assumption | omega | (exact two_bd (by omega) (by omega)) | (exact add_some (by omega)) | (exact add_some' (by omega)) | (exact one_some (by omega)) | (exact one_some' (by omega)) | (exact zC _ (by omega)) | (simp only [zm] at * <;> omega) | (simp only [srtL, GS.some_l, List.length_set, List.length_append, List.length_cons, List.length_nil] at * <;> first | with_reducible assumption | omega) | (simp only [srtL, GS.some_l, List.length_set, List.length_append, List.length_cons, List.length_nil, zm] at * <;> first | with_reducible assumption | omega) | (simp at * <;> omega))⟩) (And.intro h38 (And.intro (T_ranges_Within_1 x3p4 x6p9) (And.intro p1 (And.intro (lt_at hd6p9) trivial)))))) (by kernel_rfl) (by (simp only [sd186, go_sem, List.length_set, Nat.reduceAdd, Nat.reduceEqDiff, Nat.reduceLT, Nat.reduceLeDiff, bI2, zl.idsL, zl.renL, zl.snapAll, z8.idsL, z8.renL, z8.snapAll]) <;> rfl) (lp_ranges_pairs_6p9a a i3p4 q3p4_0 x3p4 _ (i6p9 + 1) (((z6 x3p4 x6p9).1).l) (zg hd6p9) (ze hd6p9) (by omega) (by omega) (by omega) (by omega)) (by kernel_rfl)
theorem ivt_ranges_pairs_6p9 (a : GS S_Span) (i3p4 : Nat) (q3p4_0 : GS S_Span) (x3p4 : S_Span) : ∀ (rest6p9 : List S_Span) (i6p9 : Nat) (hd6p9 : q3p4_0.l.drop i6p9 = rest6p9) (hi6p9 : i6p9 ≤ q3p4_0.l.length) (hb65 : q3p4_0.l.length ≤ 65) (ho64 : i3p4 < 64) (hL6p9 : q3p4_0.l.length ≤ 1099511627776), iv_ranges_pairs_6p9 a i3p4 q3p4_0 x3p4 (ranges_pairs_6p9 x3p4 rest6p9 i6p9) := by
  intro rest6p9
  induction rest6p9 with
  | nil =>
    intro i6p9 hd6p9 hi6p9 hb65 ho64 hL6p9
    unfold ranges_pairs_6p9
    obtain rfl : i6p9 = q3p4_0.l.length := nil_eq hd6p9 hi6p9
    exact trivial
  | cons x6p9 rest6p9 ih =>
    intro i6p9 hd6p9 hi6p9 hb65 ho64 hL6p9
    have hlt6p9 := ze hd6p9
    have hlx := within1_len x3p4 x6p9
    unfold ranges_pairs_6p9
    cases h38 : ((z6 x3p4 x6p9).2) with
    | true =>
      cases h39 : (((z6 x3p4 x6p9).1).l).isEmpty with
      | true =>
        exact trivial
      | false =>
        exact trivial
    | false =>
      cases h40 : (((z6 x3p4 x6p9).1).l).isEmpty with
      | true =>
        exact ih (i6p9 + 1) (zg hd6p9) (ze hd6p9) (by omega) (by omega) (by omega)
      | false =>
        exact ivt_ranges_pairs_6p9a a i3p4 q3p4_0 x3p4 _ (i6p9 + 1) (((z6 x3p4 x6p9).1).l) (zg hd6p9) (ze hd6p9) (by omega) (by omega) (by omega) (by omega)

def sd174 (a : GS S_Span) (i3p4 : Nat) (q3p4_0 : GS S_Span) (x3p4 : S_Span) (va3p4_0 : List S_Span) : St := ⟨40, [(22, I 0), (21, I ((q3p4_0.l.length : Nat) : Int)), (20, .sl q3p4_0.nl (q3p4_0.l.map S_Span.D) (zsl q3p4_0.nl 2) none), (9, .lref 2 0 2 0), (19, .agg [I x3p4.lo, I x3p4.hi]), (18, .ptr (.agg [I x3p4.lo, I x3p4.hi])), (17, B true), (1, .sl q3p4_0.nl (q3p4_0.l.map S_Span.D) (zsl q3p4_0.nl 2) none), (2, .fn (.func 92) [] []), (7, .lsl 1 0 va3p4_0.length 2 none), (14, .sl a.nl (a.l.map S_Span.D) (zsl a.nl 2) none), (15, I ((a.l.length : Nat) : Int)), (16, I ((i3p4 : Nat) : Int))], [(1, ⟨va3p4_0.map S_Span.D, 2, false⟩), (2, ⟨[.agg [I x3p4.lo, I x3p4.hi]], 2, false⟩)], 3, 1⟩

def sd175 (a : GS S_Span) (i3p4 : Nat) (q3p4_0 : GS S_Span) (x3p4 : S_Span) (va3p4_0 : List S_Span) : St := ⟨40, [(1, .sl q3p4_0.nl (q3p4_0.l.map S_Span.D) (zsl q3p4_0.nl 2) none), (2, .fn (.func 92) [] []), (7, .lsl 1 0 va3p4_0.length 2 none), (9, .lref 2 0 2 0), (14, .sl a.nl (a.l.map S_Span.D) (zsl a.nl 2) none), (15, I ((a.l.length : Nat) : Int)), (16, I ((i3p4 : Nat) : Int)), (20, .sl q3p4_0.nl (q3p4_0.l.map S_Span.D) (zsl q3p4_0.nl 2) none), (21, I ((q3p4_0.l.length : Nat) : Int)), (22, I 0)], [(1, ⟨va3p4_0.map S_Span.D, 2, false⟩), (2, ⟨[.agg [I x3p4.lo, I x3p4.hi]], 2, false⟩)], 3, 1⟩

def sd192 (a : GS S_Span) (i3p4 : Nat) (q3p4_0 : GS S_Span) (x3p4 : S_Span) (v6p8_0 : List S_Span) : St := ⟨40, [(16, I ((i3p4 + 1 : Nat) : Int)), (38, I ((i3p4 + 1 : Nat) : Int)), (23, B false), (1, .sl q3p4_0.nl (q3p4_0.l.map S_Span.D) (zsl q3p4_0.nl 2) none), (2, .fn (.func 92) [] []), (7, .lsl 1 0 v6p8_0.length 2 none), (9, .lref 2 0 2 0), (14, .sl a.nl (a.l.map S_Span.D) (zsl a.nl 2) none), (15, I ((a.l.length : Nat) : Int)), (16, I ((i3p4 : Nat) : Int)), (20, .sl q3p4_0.nl (q3p4_0.l.map S_Span.D) (zsl q3p4_0.nl 2) none), (21, I ((q3p4_0.l.length : Nat) : Int)), (22, I ((q3p4_0.l.length : Nat) : Int))], [(1, ⟨v6p8_0.map S_Span.D, 2, false⟩), (2, ⟨[.agg [I x3p4.lo, I x3p4.hi]], 2, false⟩)], 3, 1⟩

def sd181 (a : GS S_Span) (i3p4 : Nat) (q3p4_0 : GS S_Span) (x3p4 : S_Span) (v6p8_0 : List S_Span) : St := ⟨40, [(23, B false), (1, .sl q3p4_0.nl (q3p4_0.l.map S_Span.D) (zsl q3p4_0.nl 2) none), (2, .fn (.func 92) [] []), (7, .lsl 1 0 v6p8_0.length 2 none), (9, .lref 2 0 2 0), (14, .sl a.nl (a.l.map S_Span.D) (zsl a.nl 2) none), (15, I ((a.l.length : Nat) : Int)), (16, I ((i3p4 : Nat) : Int)), (20, .sl q3p4_0.nl (q3p4_0.l.map S_Span.D) (zsl q3p4_0.nl 2) none), (21, I ((q3p4_0.l.length : Nat) : Int)), (22, I ((q3p4_0.l.length : Nat) : Int))], [(1, ⟨v6p8_0.map S_Span.D, 2, false⟩), (2, ⟨[.agg [I x3p4.lo, I x3p4.hi]], 2, false⟩)], 3, 1⟩

def sd182 (a : GS S_Span) (i3p4 : Nat) (q3p4_0 : GS S_Span) (x3p4 : S_Span) (i6p8 : Nat) (x6p8 : S_Span) (v6p8_0 : List S_Span) : St := ⟨40, [(36, B true), (7, .lsl 1 0 v6p8_0.length 2 none), (35, .lsl 1 0 v6p8_0.length 2 none), (34, .sl (((z6 x3p4 x6p8).1).nl) ((((z6 x3p4 x6p8).1).l).map S_Span.D) (zsl (((z6 x3p4 x6p8).1).nl) 2) none), (33, .lsl 1 0 v6p8_0.length 2 none), (13, B true), (12, .sl (((z6 x3p4 x6p8).1).nl) ((((z6 x3p4 x6p8).1).l).map S_Span.D) (zsl (((z6 x3p4 x6p8).1).nl) 2) none), (32, B true), (31, .sl (((z6 x3p4 x6p8).1).nl) ((((z6 x3p4 x6p8).1).l).map S_Span.D) (zsl (((z6 x3p4 x6p8).1).nl) 2) none), (26, .tup [.sl (((z6 x3p4 x6p8).1).nl) ((((z6 x3p4 x6p8).1).l).map S_Span.D) (zsl (((z6 x3p4 x6p8).1).nl) 2) none, B ((z6 x3p4 x6p8).2)]), (30, .tup [.sl (((z6 x3p4 x6p8).1).nl) ((((z6 x3p4 x6p8).1).l).map S_Span.D) (zsl (((z6 x3p4 x6p8).1).nl) 2) none, B ((z6 x3p4 x6p8).2)]), (29, .agg [I x6p8.lo, I x6p8.hi]), (28, .agg [I x3p4.lo, I x3p4.hi]), (27, .fn (.func 92) [] []), (11, .lref 3 0 2 0), (25, .agg [I x6p8.lo, I x6p8.hi]), (24, .ptr (.agg [I x6p8.lo, I x6p8.hi])), (23, B true), (1, .sl q3p4_0.nl (q3p4_0.l.map S_Span.D) (zsl q3p4_0.nl 2) none), (2, .fn (.func 92) [] []), (7, .lsl 1 0 v6p8_0.length 2 none), (9, .lref 2 0 2 0), (14, .sl a.nl (a.l.map S_Span.D) (zsl a.nl 2) none), (15, I ((a.l.length : Nat) : Int)), (16, I ((i3p4 : Nat) : Int)), (20, .sl q3p4_0.nl (q3p4_0.l.map S_Span.D) (zsl q3p4_0.nl 2) none), (21, I ((q3p4_0.l.length : Nat) : Int)), (22, I ((i6p8 : Nat) : Int))], [(1, ⟨v6p8_0.map S_Span.D, 2, false⟩), (2, ⟨[.agg [I x3p4.lo, I x3p4.hi]], 2, false⟩), (3, ⟨[.agg [I x6p8.lo, I x6p8.hi]], 2, false⟩)], 4, 1⟩

def sd183 (a : GS S_Span) (i3p4 : Nat) (q3p4_0 : GS S_Span) (x3p4 : S_Span) (i6p8 : Nat) (x6p8 : S_Span) (v6p8_0 : List S_Span) : St := ⟨40, [(36, B true), (7, .lsl 4 0 ((v6p8_0 ++ (((z6 x3p4 x6p8).1).l)).length) 2 none), (35, .lsl 4 0 ((v6p8_0 ++ (((z6 x3p4 x6p8).1).l)).length) 2 none), (34, .sl (((z6 x3p4 x6p8).1).nl) ((((z6 x3p4 x6p8).1).l).map S_Span.D) (zsl (((z6 x3p4 x6p8).1).nl) 2) none), (33, .lsl 1 0 v6p8_0.length 2 none), (13, B true), (12, .sl (((z6 x3p4 x6p8).1).nl) ((((z6 x3p4 x6p8).1).l).map S_Span.D) (zsl (((z6 x3p4 x6p8).1).nl) 2) none), (32, B true), (31, .sl (((z6 x3p4 x6p8).1).nl) ((((z6 x3p4 x6p8).1).l).map S_Span.D) (zsl (((z6 x3p4 x6p8).1).nl) 2) none), (26, .tup [.sl (((z6 x3p4 x6p8).1).nl) ((((z6 x3p4 x6p8).1).l).map S_Span.D) (zsl (((z6 x3p4 x6p8).1).nl) 2) none, B ((z6 x3p4 x6p8).2)]), (30, .tup [.sl (((z6 x3p4 x6p8).1).nl) ((((z6 x3p4 x6p8).1).l).map S_Span.D) (zsl (((z6 x3p4 x6p8).1).nl) 2) none, B ((z6 x3p4 x6p8).2)]), (29, .agg [I x6p8.lo, I x6p8.hi]), (28, .agg [I x3p4.lo, I x3p4.hi]), (27, .fn (.func 92) [] []), (11, .lref 3 0 2 0), (25, .agg [I x6p8.lo, I x6p8.hi]), (24, .ptr (.agg [I x6p8.lo, I x6p8.hi])), (23, B true), (1, .sl q3p4_0.nl (q3p4_0.l.map S_Span.D) (zsl q3p4_0.nl 2) none), (2, .fn (.func 92) [] []), (7, .lsl 1 0 v6p8_0.length 2 none), (9, .lref 2 0 2 0), (14, .sl a.nl (a.l.map S_Span.D) (zsl a.nl 2) none), (15, I ((a.l.length : Nat) : Int)), (16, I ((i3p4 : Nat) : Int)), (20, .sl q3p4_0.nl (q3p4_0.l.map S_Span.D) (zsl q3p4_0.nl 2) none), (21, I ((q3p4_0.l.length : Nat) : Int)), (22, I ((i6p8 : Nat) : Int))], [(2, ⟨[.agg [I x3p4.lo, I x3p4.hi]], 2, false⟩), (3, ⟨[.agg [I x6p8.lo, I x6p8.hi]], 2, false⟩), (4, ⟨(v6p8_0 ++ (((z6 x3p4 x6p8).1).l)).map S_Span.D, 2, false⟩)], 5, 1⟩

def sd193 (a : GS S_Span) (i3p4 : Nat) (q3p4_0 : GS S_Span) (x3p4 : S_Span) (va6p9_0 : List S_Span) : St := ⟨40, [(16, I ((i3p4 + 1 : Nat) : Int)), (38, I ((i3p4 + 1 : Nat) : Int)), (23, B false), (1, .sl q3p4_0.nl (q3p4_0.l.map S_Span.D) (zsl q3p4_0.nl 2) none), (2, .fn (.func 92) [] []), (7, .lsl 1 0 va6p9_0.length 2 none), (9, .lref 2 0 2 0), (14, .sl a.nl (a.l.map S_Span.D) (zsl a.nl 2) none), (15, I ((a.l.length : Nat) : Int)), (16, I ((i3p4 : Nat) : Int)), (20, .sl q3p4_0.nl (q3p4_0.l.map S_Span.D) (zsl q3p4_0.nl 2) none), (21, I ((q3p4_0.l.length : Nat) : Int)), (22, I ((q3p4_0.l.length : Nat) : Int))], [(1, ⟨va6p9_0.map S_Span.D, 2, false⟩), (2, ⟨[.agg [I x3p4.lo, I x3p4.hi]], 2, false⟩)], 3, 1⟩

def sd187 (a : GS S_Span) (i3p4 : Nat) (q3p4_0 : GS S_Span) (x3p4 : S_Span) (va6p9_0 : List S_Span) : St := ⟨40, [(23, B false), (1, .sl q3p4_0.nl (q3p4_0.l.map S_Span.D) (zsl q3p4_0.nl 2) none), (2, .fn (.func 92) [] []), (7, .lsl 1 0 va6p9_0.length 2 none), (9, .lref 2 0 2 0), (14, .sl a.nl (a.l.map S_Span.D) (zsl a.nl 2) none), (15, I ((a.l.length : Nat) : Int)), (16, I ((i3p4 : Nat) : Int)), (20, .sl q3p4_0.nl (q3p4_0.l.map S_Span.D) (zsl q3p4_0.nl 2) none), (21, I ((q3p4_0.l.length : Nat) : Int)), (22, I ((q3p4_0.l.length : Nat) : Int))], [(1, ⟨va6p9_0.map S_Span.D, 2, false⟩), (2, ⟨[.agg [I x3p4.lo, I x3p4.hi]], 2, false⟩)], 3, 1⟩

def sd188 (a : GS S_Span) (i3p4 : Nat) (q3p4_0 : GS S_Span) (x3p4 : S_Span) (i6p9 : Nat) (x6p9 : S_Span) (va6p9_0 : List S_Span) : St := ⟨40, [(36, B true), (7, .lsl 1 0 va6p9_0.length 2 none), (35, .lsl 1 0 va6p9_0.length 2 none), (34, .sl (((z6 x3p4 x6p9).1).nl) ((((z6 x3p4 x6p9).1).l).map S_Span.D) (zsl (((z6 x3p4 x6p9).1).nl) 2) none), (33, .lsl 1 0 va6p9_0.length 2 none), (13, B true), (12, .sl (((z6 x3p4 x6p9).1).nl) ((((z6 x3p4 x6p9).1).l).map S_Span.D) (zsl (((z6 x3p4 x6p9).1).nl) 2) none), (32, B true), (31, .sl (((z6 x3p4 x6p9).1).nl) ((((z6 x3p4 x6p9).1).l).map S_Span.D) (zsl (((z6 x3p4 x6p9).1).nl) 2) none), (26, .tup [.sl (((z6 x3p4 x6p9).1).nl) ((((z6 x3p4 x6p9).1).l).map S_Span.D) (zsl (((z6 x3p4 x6p9).1).nl) 2) none, B ((z6 x3p4 x6p9).2)]), (30, .tup [.sl (((z6 x3p4 x6p9).1).nl) ((((z6 x3p4 x6p9).1).l).map S_Span.D) (zsl (((z6 x3p4 x6p9).1).nl) 2) none, B ((z6 x3p4 x6p9).2)]), (29, .agg [I x6p9.lo, I x6p9.hi]), (28, .agg [I x3p4.lo, I x3p4.hi]), (27, .fn (.func 92) [] []), (11, .lref 3 0 2 0), (25, .agg [I x6p9.lo, I x6p9.hi]), (24, .ptr (.agg [I x6p9.lo, I x6p9.hi])), (23, B true), (1, .sl q3p4_0.nl (q3p4_0.l.map S_Span.D) (zsl q3p4_0.nl 2) none), (2, .fn (.func 92) [] []), (7, .lsl 1 0 va6p9_0.length 2 none), (9, .lref 2 0 2 0), (14, .sl a.nl (a.l.map S_Span.D) (zsl a.nl 2) none), (15, I ((a.l.length : Nat) : Int)), (16, I ((i3p4 : Nat) : Int)), (20, .sl q3p4_0.nl (q3p4_0.l.map S_Span.D) (zsl q3p4_0.nl 2) none), (21, I ((q3p4_0.l.length : Nat) : Int)), (22, I ((i6p9 : Nat) : Int))], [(1, ⟨va6p9_0.map S_Span.D, 2, false⟩), (2, ⟨[.agg [I x3p4.lo, I x3p4.hi]], 2, false⟩), (3, ⟨[.agg [I x6p9.lo, I x6p9.hi]], 2, false⟩)], 4, 1⟩

def sd189 (a : GS S_Span) (i3p4 : Nat) (q3p4_0 : GS S_Span) (x3p4 : S_Span) (i6p9 : Nat) (x6p9 : S_Span) (va6p9_0 : List S_Span) : St := ⟨40, [(36, B true), (7, .lsl 4 0 ((va6p9_0 ++ (((z6 x3p4 x6p9).1).l)).length) 2 none), (35, .lsl 4 0 ((va6p9_0 ++ (((z6 x3p4 x6p9).1).l)).length) 2 none), (34, .sl (((z6 x3p4 x6p9).1).nl) ((((z6 x3p4 x6p9).1).l).map S_Span.D) (zsl (((z6 x3p4 x6p9).1).nl) 2) none), (33, .lsl 1 0 va6p9_0.length 2 none), (13, B true), (12, .sl (((z6 x3p4 x6p9).1).nl) ((((z6 x3p4 x6p9).1).l).map S_Span.D) (zsl (((z6 x3p4 x6p9).1).nl) 2) none), (32, B true), (31, .sl (((z6 x3p4 x6p9).1).nl) ((((z6 x3p4 x6p9).1).l).map S_Span.D) (zsl (((z6 x3p4 x6p9).1).nl) 2) none), (26, .tup [.sl (((z6 x3p4 x6p9).1).nl) ((((z6 x3p4 x6p9).1).l).map S_Span.D) (zsl (((z6 x3p4 x6p9).1).nl) 2) none, B ((z6 x3p4 x6p9).2)]), (30, .tup [.sl (((z6 x3p4 x6p9).1).nl) ((((z6 x3p4 x6p9).1).l).map S_Span.D) (zsl (((z6 x3p4 x6p9).1).nl) 2) none, B ((z6 x3p4 x6p9).2)]), (29, .agg [I x6p9.lo, I x6p9.hi]), (28, .agg [I x3p4.lo, I x3p4.hi]), (27, .fn (.func 92) [] []), (11, .lref 3 0 2 0), (25, .agg [I x6p9.lo, I x6p9.hi]), (24, .ptr (.agg [I x6p9.lo, I x6p9.hi])), (23, B true), (1, .sl q3p4_0.nl (q3p4_0.l.map S_Span.D) (zsl q3p4_0.nl 2) none), (2, .fn (.func 92) [] []), (7, .lsl 1 0 va6p9_0.length 2 none), (9, .lref 2 0 2 0), (14, .sl a.nl (a.l.map S_Span.D) (zsl a.nl 2) none), (15, I ((a.l.length : Nat) : Int)), (16, I ((i3p4 : Nat) : Int)), (20, .sl q3p4_0.nl (q3p4_0.l.map S_Span.D) (zsl q3p4_0.nl 2) none), (21, I ((q3p4_0.l.length : Nat) : Int)), (22, I ((i6p9 : Nat) : Int))], [(2, ⟨[.agg [I x3p4.lo, I x3p4.hi]], 2, false⟩), (3, ⟨[.agg [I x6p9.lo, I x6p9.hi]], 2, false⟩), (4, ⟨(va6p9_0 ++ (((z6 x3p4 x6p9).1).l)).map S_Span.D, 2, false⟩)], 5, 1⟩

def sd169 (a : GS S_Span) (i3p4 : Nat) (q3p4_0 : GS S_Span) (x3p4 : S_Span) : St := ⟨40, [(23, B false), (1, .sl q3p4_0.nl (q3p4_0.l.map S_Span.D) (zsl q3p4_0.nl 2) none), (2, .fn (.func 92) [] []), (7, .sl true [] 0 none), (9, .lref 1 0 2 0), (14, .sl a.nl (a.l.map S_Span.D) (zsl a.nl 2) none), (15, I ((a.l.length : Nat) : Int)), (16, I ((i3p4 : Nat) : Int)), (20, .sl q3p4_0.nl (q3p4_0.l.map S_Span.D) (zsl q3p4_0.nl 2) none), (21, I ((q3p4_0.l.length : Nat) : Int)), (22, I ((q3p4_0.l.length : Nat) : Int))], [(1, ⟨[.agg [I x3p4.lo, I x3p4.hi]], 2, false⟩)], 2, 1⟩

def sd190 (a : GS S_Span) (i3p4 : Nat) (q3p4_0 : GS S_Span) (x3p4 : S_Span) (i6p9 : Nat) (x6p9 : S_Span) : St := ⟨40, [(36, B true), (7, .sl true [] 0 none), (35, .sl true [] 0 none), (34, .sl (((z6 x3p4 x6p9).1).nl) ((((z6 x3p4 x6p9).1).l).map S_Span.D) (zsl (((z6 x3p4 x6p9).1).nl) 2) none), (33, .sl true [] 0 none), (13, B true), (12, .sl (((z6 x3p4 x6p9).1).nl) ((((z6 x3p4 x6p9).1).l).map S_Span.D) (zsl (((z6 x3p4 x6p9).1).nl) 2) none), (32, B true), (31, .sl (((z6 x3p4 x6p9).1).nl) ((((z6 x3p4 x6p9).1).l).map S_Span.D) (zsl (((z6 x3p4 x6p9).1).nl) 2) none), (26, .tup [.sl (((z6 x3p4 x6p9).1).nl) ((((z6 x3p4 x6p9).1).l).map S_Span.D) (zsl (((z6 x3p4 x6p9).1).nl) 2) none, B ((z6 x3p4 x6p9).2)]), (30, .tup [.sl (((z6 x3p4 x6p9).1).nl) ((((z6 x3p4 x6p9).1).l).map S_Span.D) (zsl (((z6 x3p4 x6p9).1).nl) 2) none, B ((z6 x3p4 x6p9).2)]), (29, .agg [I x6p9.lo, I x6p9.hi]), (28, .agg [I x3p4.lo, I x3p4.hi]), (27, .fn (.func 92) [] []), (11, .lref 2 0 2 0), (25, .agg [I x6p9.lo, I x6p9.hi]), (24, .ptr (.agg [I x6p9.lo, I x6p9.hi])), (23, B true), (1, .sl q3p4_0.nl (q3p4_0.l.map S_Span.D) (zsl q3p4_0.nl 2) none), (2, .fn (.func 92) [] []), (7, .sl true [] 0 none), (9, .lref 1 0 2 0), (14, .sl a.nl (a.l.map S_Span.D) (zsl a.nl 2) none), (15, I ((a.l.length : Nat) : Int)), (16, I ((i3p4 : Nat) : Int)), (20, .sl q3p4_0.nl (q3p4_0.l.map S_Span.D) (zsl q3p4_0.nl 2) none), (21, I ((q3p4_0.l.length : Nat) : Int)), (22, I ((i6p9 : Nat) : Int))], [(1, ⟨[.agg [I x3p4.lo, I x3p4.hi]], 2, false⟩), (2, ⟨[.agg [I x6p9.lo, I x6p9.hi]], 2, false⟩)], 3, 1⟩

def sd191 (a : GS S_Span) (i3p4 : Nat) (q3p4_0 : GS S_Span) (x3p4 : S_Span) (i6p9 : Nat) (x6p9 : S_Span) : St := ⟨40, [(36, B true), (7, .lsl 3 0 ((((z6 x3p4 x6p9).1).l).length) 2 none), (35, .lsl 3 0 ((((z6 x3p4 x6p9).1).l).length) 2 none), (34, .sl (((z6 x3p4 x6p9).1).nl) ((((z6 x3p4 x6p9).1).l).map S_Span.D) (zsl (((z6 x3p4 x6p9).1).nl) 2) none), (33, .sl true [] 0 none), (13, B true), (12, .sl (((z6 x3p4 x6p9).1).nl) ((((z6 x3p4 x6p9).1).l).map S_Span.D) (zsl (((z6 x3p4 x6p9).1).nl) 2) none), (32, B true), (31, .sl (((z6 x3p4 x6p9).1).nl) ((((z6 x3p4 x6p9).1).l).map S_Span.D) (zsl (((z6 x3p4 x6p9).1).nl) 2) none), (26, .tup [.sl (((z6 x3p4 x6p9).1).nl) ((((z6 x3p4 x6p9).1).l).map S_Span.D) (zsl (((z6 x3p4 x6p9).1).nl) 2) none, B ((z6 x3p4 x6p9).2)]), (30, .tup [.sl (((z6 x3p4 x6p9).1).nl) ((((z6 x3p4 x6p9).1).l).map S_Span.D) (zsl (((z6 x3p4 x6p9).1).nl) 2) none, B ((z6 x3p4 x6p9).2)]), (29, .agg [I x6p9.lo, I x6p9.hi]), (28, .agg [I x3p4.lo, I x3p4.hi]), (27, .fn (.func 92) [] []), (11, .lref 2 0 2 0), (25, .agg [I x6p9.lo, I x6p9.hi]), (24, .ptr (.agg [I x6p9.lo, I x6p9.hi])), (23, B true), (1, .sl q3p4_0.nl (q3p4_0.l.map S_Span.D) (zsl q3p4_0.nl 2) none), (2, .fn (.func 92) [] []), (7, .sl true [] 0 none), (9, .lref 1 0 2 0), (14, .sl a.nl (a.l.map S_Span.D) (zsl a.nl 2) none), (15, I ((a.l.length : Nat) : Int)), (16, I ((i3p4 : Nat) : Int)), (20, .sl q3p4_0.nl (q3p4_0.l.map S_Span.D) (zsl q3p4_0.nl 2) none), (21, I ((q3p4_0.l.length : Nat) : Int)), (22, I ((i6p9 : Nat) : Int))], [(1, ⟨[.agg [I x3p4.lo, I x3p4.hi]], 2, false⟩), (2, ⟨[.agg [I x6p9.lo, I x6p9.hi]], 2, false⟩), (3, ⟨(((z6 x3p4 x6p9).1).l).map S_Span.D, 2, false⟩)], 4, 1⟩

inductive LR_ranges_pairs_3p4 where
  | x0 (va3p4_0 : List S_Span)
  | x1 (i3p4 : Nat) (x3p4 : S_Span) (i6p8 : Nat) (x6p8 : S_Span) (v6p8_0 : List S_Span)
  | x2 (i3p4 : Nat) (x3p4 : S_Span) (i6p8 : Nat) (x6p8 : S_Span) (v6p8_0 : List S_Span)
  | x3
  | x4 (i3p4 : Nat) (x3p4 : S_Span) (i6p9 : Nat) (x6p9 : S_Span) (va6p9_0 : List S_Span)
  | x5 (i3p4 : Nat) (x3p4 : S_Span) (i6p9 : Nat) (x6p9 : S_Span) (va6p9_0 : List S_Span)
  | x6 (i3p4 : Nat) (x3p4 : S_Span) (i6p9 : Nat) (x6p9 : S_Span)
  | x7 (i3p4 : Nat) (x3p4 : S_Span) (i6p9 : Nat) (x6p9 : S_Span)
instance : Inhabited LR_ranges_pairs_3p4 := ⟨.x0 default⟩
def ranges_pairs_3p4a (q3p4_0 : GS S_Span) : List S_Span → Nat → (List S_Span) → LR_ranges_pairs_3p4
  | [], i3p4, va3p4_0 => .x0 va3p4_0
  | x3p4 :: rest3p4, i3p4, va3p4_0 =>
    match ranges_pairs_6p8 x3p4 q3p4_0.l 0 va3p4_0 with
    | .x0 v6p8_0 =>
      ranges_pairs_3p4a q3p4_0 rest3p4 (i3p4 + 1) v6p8_0
    | .x1 i6p8 x6p8 v6p8_0 =>
      .x1 i3p4 x3p4 i6p8 x6p8 v6p8_0
    | .x2 i6p8 x6p8 v6p8_0 =>
      .x2 i3p4 x3p4 i6p8 x6p8 v6p8_0
def ranges_pairs_3p4 (q3p4_0 : GS S_Span) : List S_Span → Nat → LR_ranges_pairs_3p4
  | [], i3p4 => .x3
  | x3p4 :: rest3p4, i3p4 =>
    match ranges_pairs_6p9 x3p4 q3p4_0.l 0 with
    | .x0 va6p9_0 =>
      ranges_pairs_3p4a q3p4_0 rest3p4 (i3p4 + 1) va6p9_0
    | .x1 i6p9 x6p9 va6p9_0 =>
      .x4 i3p4 x3p4 i6p9 x6p9 va6p9_0
    | .x2 i6p9 x6p9 va6p9_0 =>
      .x5 i3p4 x3p4 i6p9 x6p9 va6p9_0
    | .x3 =>
      ranges_pairs_3p4 q3p4_0 rest3p4 (i3p4 + 1)
    | .x4 i6p9 x6p9 =>
      .x6 i3p4 x3p4 i6p9 x6p9
    | .x5 i6p9 x6p9 =>
      .x7 i3p4 x3p4 i6p9 x6p9
def lr_ranges_pairs_3p4 (a : GS S_Span) (q3p4_0 : GS S_Span) : LR_ranges_pairs_3p4 → Exit × St
  | .x0 va3p4_0 => ((.exit 0), ⟨40, [(17, B false), (1, .sl q3p4_0.nl (q3p4_0.l.map S_Span.D) (zsl q3p4_0.nl 2) none), (2, .fn (.func 92) [] []), (7, .lsl 1 0 va3p4_0.length 2 none), (14, .sl a.nl (a.l.map S_Span.D) (zsl a.nl 2) none), (15, I ((a.l.length : Nat) : Int)), (16, I ((a.l.length : Nat) : Int))], [(1, ⟨va3p4_0.map S_Span.D, 2, false⟩)], 2, 1⟩)
  | .x1 i3p4 x3p4 i6p8 x6p8 v6p8_0 => ((.exit 0), ⟨40, [(36, B true), (7, .lsl 1 0 v6p8_0.length 2 none), (35, .lsl 1 0 v6p8_0.length 2 none), (34, .sl (((z6 x3p4 x6p8).1).nl) ((((z6 x3p4 x6p8).1).l).map S_Span.D) (zsl (((z6 x3p4 x6p8).1).nl) 2) none), (33, .lsl 1 0 v6p8_0.length 2 none), (13, B true), (12, .sl (((z6 x3p4 x6p8).1).nl) ((((z6 x3p4 x6p8).1).l).map S_Span.D) (zsl (((z6 x3p4 x6p8).1).nl) 2) none), (32, B true), (31, .sl (((z6 x3p4 x6p8).1).nl) ((((z6 x3p4 x6p8).1).l).map S_Span.D) (zsl (((z6 x3p4 x6p8).1).nl) 2) none), (26, .tup [.sl (((z6 x3p4 x6p8).1).nl) ((((z6 x3p4 x6p8).1).l).map S_Span.D) (zsl (((z6 x3p4 x6p8).1).nl) 2) none, B ((z6 x3p4 x6p8).2)]), (30, .tup [.sl (((z6 x3p4 x6p8).1).nl) ((((z6 x3p4 x6p8).1).l).map S_Span.D) (zsl (((z6 x3p4 x6p8).1).nl) 2) none, B ((z6 x3p4 x6p8).2)]), (29, .agg [I x6p8.lo, I x6p8.hi]), (28, .agg [I x3p4.lo, I x3p4.hi]), (27, .fn (.func 92) [] []), (11, .lref 3 0 2 0), (25, .agg [I x6p8.lo, I x6p8.hi]), (24, .ptr (.agg [I x6p8.lo, I x6p8.hi])), (23, B true), (1, .sl q3p4_0.nl (q3p4_0.l.map S_Span.D) (zsl q3p4_0.nl 2) none), (2, .fn (.func 92) [] []), (7, .lsl 1 0 v6p8_0.length 2 none), (9, .lref 2 0 2 0), (14, .sl a.nl (a.l.map S_Span.D) (zsl a.nl 2) none), (15, I ((a.l.length : Nat) : Int)), (16, I ((i3p4 : Nat) : Int)), (20, .sl q3p4_0.nl (q3p4_0.l.map S_Span.D) (zsl q3p4_0.nl 2) none), (21, I ((q3p4_0.l.length : Nat) : Int)), (22, I ((i6p8 : Nat) : Int))], [(1, ⟨v6p8_0.map S_Span.D, 2, false⟩), (2, ⟨[.agg [I x3p4.lo, I x3p4.hi]], 2, false⟩), (3, ⟨[.agg [I x6p8.lo, I x6p8.hi]], 2, false⟩)], 4, 1⟩)
  | .x2 i3p4 x3p4 i6p8 x6p8 v6p8_0 => ((.exit 0), ⟨40, [(36, B true), (7, .lsl 4 0 ((v6p8_0 ++ (((z6 x3p4 x6p8).1).l)).length) 2 none), (35, .lsl 4 0 ((v6p8_0 ++ (((z6 x3p4 x6p8).1).l)).length) 2 none), (34, .sl (((z6 x3p4 x6p8).1).nl) ((((z6 x3p4 x6p8).1).l).map S_Span.D) (zsl (((z6 x3p4 x6p8).1).nl) 2) none), (33, .lsl 1 0 v6p8_0.length 2 none), (13, B true), (12, .sl (((z6 x3p4 x6p8).1).nl) ((((z6 x3p4 x6p8).1).l).map S_Span.D) (zsl (((z6 x3p4 x6p8).1).nl) 2) none), (32, B true), (31, .sl (((z6 x3p4 x6p8).1).nl) ((((z6 x3p4 x6p8).1).l).map S_Span.D) (zsl (((z6 x3p4 x6p8).1).nl) 2) none), (26, .tup [.sl (((z6 x3p4 x6p8).1).nl) ((((z6 x3p4 x6p8).1).l).map S_Span.D) (zsl (((z6 x3p4 x6p8).1).nl) 2) none, B ((z6 x3p4 x6p8).2)]), (30, .tup [.sl (((z6 x3p4 x6p8).1).nl) ((((z6 x3p4 x6p8).1).l).map S_Span.D) (zsl (((z6 x3p4 x6p8).1).nl) 2) none, B ((z6 x3p4 x6p8).2)]), (29, .agg [I x6p8.lo, I x6p8.hi]), (28, .agg [I x3p4.lo, I x3p4.hi]), (27, .fn (.func 92) [] []), (11, .lref 3 0 2 0), (25, .agg [I x6p8.lo, I x6p8.hi]), (24, .ptr (.agg [I x6p8.lo, I x6p8.hi])), (23, B true), (1, .sl q3p4_0.nl (q3p4_0.l.map S_Span.D) (zsl q3p4_0.nl 2) none), (2, .fn (.func 92) [] []), (7, .lsl 1 0 v6p8_0.length 2 none), (9, .lref 2 0 2 0), (14, .sl a.nl (a.l.map S_Span.D) (zsl a.nl 2) none), (15, I ((a.l.length : Nat) : Int)), (16, I ((i3p4 : Nat) : Int)), (20, .sl q3p4_0.nl (q3p4_0.l.map S_Span.D) (zsl q3p4_0.nl 2) none), (21, I ((q3p4_0.l.length : Nat) : Int)), (22, I ((i6p8 : Nat) : Int))], [(2, ⟨[.agg [I x3p4.lo, I x3p4.hi]], 2, false⟩), (3, ⟨[.agg [I x6p8.lo, I x6p8.hi]], 2, false⟩), (4, ⟨(v6p8_0 ++ (((z6 x3p4 x6p8).1).l)).map S_Span.D, 2, false⟩)], 5, 1⟩)
  | .x3 => ((.exit 0), ⟨40, [(17, B false), (1, .sl q3p4_0.nl (q3p4_0.l.map S_Span.D) (zsl q3p4_0.nl 2) none), (2, .fn (.func 92) [] []), (7, .sl true [] 0 none), (14, .sl a.nl (a.l.map S_Span.D) (zsl a.nl 2) none), (15, I ((a.l.length : Nat) : Int)), (16, I ((a.l.length : Nat) : Int))], [], 1, 1⟩)
  | .x4 i3p4 x3p4 i6p9 x6p9 va6p9_0 => ((.exit 0), ⟨40, [(36, B true), (7, .lsl 1 0 va6p9_0.length 2 none), (35, .lsl 1 0 va6p9_0.length 2 none), (34, .sl (((z6 x3p4 x6p9).1).nl) ((((z6 x3p4 x6p9).1).l).map S_Span.D) (zsl (((z6 x3p4 x6p9).1).nl) 2) none), (33, .lsl 1 0 va6p9_0.length 2 none), (13, B true), (12, .sl (((z6 x3p4 x6p9).1).nl) ((((z6 x3p4 x6p9).1).l).map S_Span.D) (zsl (((z6 x3p4 x6p9).1).nl) 2) none), (32, B true), (31, .sl (((z6 x3p4 x6p9).1).nl) ((((z6 x3p4 x6p9).1).l).map S_Span.D) (zsl (((z6 x3p4 x6p9).1).nl) 2) none), (26, .tup [.sl (((z6 x3p4 x6p9).1).nl) ((((z6 x3p4 x6p9).1).l).map S_Span.D) (zsl (((z6 x3p4 x6p9).1).nl) 2) none, B ((z6 x3p4 x6p9).2)]), (30, .tup [.sl (((z6 x3p4 x6p9).1).nl) ((((z6 x3p4 x6p9).1).l).map S_Span.D) (zsl (((z6 x3p4 x6p9).1).nl) 2) none, B ((z6 x3p4 x6p9).2)]), (29, .agg [I x6p9.lo, I x6p9.hi]), (28, .agg [I x3p4.lo, I x3p4.hi]), (27, .fn (.func 92) [] []), (11, .lref 3 0 2 0), (25, .agg [I x6p9.lo, I x6p9.hi]), (24, .ptr (.agg [I x6p9.lo, I x6p9.hi])), (23, B true), (1, .sl q3p4_0.nl (q3p4_0.l.map S_Span.D) (zsl q3p4_0.nl 2) none), (2, .fn (.func 92) [] []), (7, .lsl 1 0 va6p9_0.length 2 none), (9, .lref 2 0 2 0), (14, .sl a.nl (a.l.map S_Span.D) (zsl a.nl 2) none), (15, I ((a.l.length : Nat) : Int)), (16, I ((i3p4 : Nat) : Int)), (20, .sl q3p4_0.nl (q3p4_0.l.map S_Span.D) (zsl q3p4_0.nl 2) none), (21, I ((q3p4_0.l.length : Nat) : Int)), (22, I ((i6p9 : Nat) : Int))], [(1, ⟨va6p9_0.map S_Span.D, 2, false⟩), (2, ⟨[.agg [I x3p4.lo, I x3p4.hi]], 2, false⟩), (3, ⟨[.agg [I x6p9.lo, I x6p9.hi]], 2, false⟩)], 4, 1⟩)
  | .x5 i3p4 x3p4 i6p9 x6p9 va6p9_0 => ((.exit 0), ⟨40, [(36, B true), (7, .lsl 4 0 ((va6p9_0 ++ (((z6 x3p4 x6p9).1).l)).length) 2 none), (35, .lsl 4 0 ((va6p9_0 ++ (((z6 x3p4 x6p9).1).l)).length) 2 none), (34, .sl (((z6 x3p4 x6p9).1).nl) ((((z6 x3p4 x6p9).1).l).map S_Span.D) (zsl (((z6 x3p4 x6p9).1).nl) 2) none), (33, .lsl 1 0 va6p9_0.length 2 none), (13, B true), (12, .sl (((z6 x3p4 x6p9).1).nl) ((((z6 x3p4 x6p9).1).l).map S_Span.D) (zsl (((z6 x3p4 x6p9).1).nl) 2) none), (32, B true), (31, .sl (((z6 x3p4 x6p9).1).nl) ((((z6 x3p4 x6p9).1).l).map S_Span.D) (zsl (((z6 x3p4 x6p9).1).nl) 2) none), (26, .tup [.sl (((z6 x3p4 x6p9).1).nl) ((((z6 x3p4 x6p9).1).l).map S_Span.D) (zsl (((z6 x3p4 x6p9).1).nl) 2) none, B ((z6 x3p4 x6p9).2)]), (30, .tup [.sl (((z6 x3p4 x6p9).1).nl) ((((z6 x3p4 x6p9).1).l).map S_Span.D) (zsl (((z6 x3p4 x6p9).1).nl) 2) none, B ((z6 x3p4 x6p9).2)]), (29, .agg [I x6p9.lo, I x6p9.hi]), (28, .agg [I x3p4.lo, I x3p4.hi]), (27, .fn (.func 92) [] []), (11, .lref 3 0 2 0), (25, .agg [I x6p9.lo, I x6p9.hi]), (24, .ptr (.agg [I x6p9.lo, I x6p9.hi])), (23, B true), (1, .sl q3p4_0.nl (q3p4_0.l.map S_Span.D) (zsl q3p4_0.nl 2) none), (2, .fn (.func 92) [] []), (7, .lsl 1 0 va6p9_0.length 2 none), (9, .lref 2 0 2 0), (14, .sl a.nl (a.l.map S_Span.D) (zsl a.nl 2) none), (15, I ((a.l.length : Nat) : Int)), (16, I ((i3p4 : Nat) : Int)), (20, .sl q3p4_0.nl (q3p4_0.l.map S_Span.D) (zsl q3p4_0.nl 2) none), (21, I ((q3p4_0.l.length : Nat) : Int)), (22, I ((i6p9 : Nat) : Int))], [(2, ⟨[.agg [I x3p4.lo, I x3p4.hi]], 2, false⟩), (3, ⟨[.agg [I x6p9.lo, I x6p9.hi]], 2, false⟩), (4, ⟨(va6p9_0 ++ (((z6 x3p4 x6p9).1).l)).map S_Span.D, 2, false⟩)], 5, 1⟩)
  | .x6 i3p4 x3p4 i6p9 x6p9 => ((.exit 0), ⟨40, [(36, B true), (7, .sl true [] 0 none), (35, .sl true [] 0 none), (34, .sl (((z6 x3p4 x6p9).1).nl) ((((z6 x3p4 x6p9).1).l).map S_Span.D) (zsl (((z6 x3p4 x6p9).1).nl) 2) none), (33, .sl true [] 0 none), (13, B true), (12, .sl (((z6 x3p4 x6p9).1).nl) ((((z6 x3p4 x6p9).1).l).map S_Span.D) (zsl (((z6 x3p4 x6p9).1).nl) 2) none), (32, B true), (31, .sl (((z6 x3p4 x6p9).1).nl) ((((z6 x3p4 x6p9).1).l).map S_Span.D) (zsl (((z6 x3p4 x6p9).1).nl) 2) none), (26, .tup [.sl (((z6 x3p4 x6p9).1).nl) ((((z6 x3p4 x6p9).1).l).map S_Span.D) (zsl (((z6 x3p4 x6p9).1).nl) 2) none, B ((z6 x3p4 x6p9).2)]), (30, .tup [.sl (((z6 x3p4 x6p9).1).nl) ((((z6 x3p4 x6p9).1).l).map S_Span.D) (zsl (((z6 x3p4 x6p9).1).nl) 2) none, B ((z6 x3p4 x6p9).2)]), (29, .agg [I x6p9.lo, I x6p9.hi]), (28, .agg [I x3p4.lo, I x3p4.hi]), (27, .fn (.func 92) [] []), (11, .lref 2 0 2 0), (25, .agg [I x6p9.lo, I x6p9.hi]), (24, .ptr (.agg [I x6p9.lo, I x6p9.hi])), (23, B true), (1, .sl q3p4_0.nl (q3p4_0.l.map S_Span.D) (zsl q3p4_0.nl 2) none), (2, .fn (.func 92) [] []), (7, .sl true [] 0 none), (9, .lref 1 0 2 0), (14, .sl a.nl (a.l.map S_Span.D) (zsl a.nl 2) none), (15, I ((a.l.length : Nat) : Int)), (16, I ((i3p4 : Nat) : Int)), (20, .sl q3p4_0.nl (q3p4_0.l.map S_Span.D) (zsl q3p4_0.nl 2) none), (21, I ((q3p4_0.l.length : Nat) : Int)), (22, I ((i6p9 : Nat) : Int))], [(1, ⟨[.agg [I x3p4.lo, I x3p4.hi]], 2, false⟩), (2, ⟨[.agg [I x6p9.lo, I x6p9.hi]], 2, false⟩)], 3, 1⟩)
  | .x7 i3p4 x3p4 i6p9 x6p9 => ((.exit 0), ⟨40, [(36, B true), (7, .lsl 3 0 ((((z6 x3p4 x6p9).1).l).length) 2 none), (35, .lsl 3 0 ((((z6 x3p4 x6p9).1).l).length) 2 none), (34, .sl (((z6 x3p4 x6p9).1).nl) ((((z6 x3p4 x6p9).1).l).map S_Span.D) (zsl (((z6 x3p4 x6p9).1).nl) 2) none), (33, .sl true [] 0 none), (13, B true), (12, .sl (((z6 x3p4 x6p9).1).nl) ((((z6 x3p4 x6p9).1).l).map S_Span.D) (zsl (((z6 x3p4 x6p9).1).nl) 2) none), (32, B true), (31, .sl (((z6 x3p4 x6p9).1).nl) ((((z6 x3p4 x6p9).1).l).map S_Span.D) (zsl (((z6 x3p4 x6p9).1).nl) 2) none), (26, .tup [.sl (((z6 x3p4 x6p9).1).nl) ((((z6 x3p4 x6p9).1).l).map S_Span.D) (zsl (((z6 x3p4 x6p9).1).nl) 2) none, B ((z6 x3p4 x6p9).2)]), (30, .tup [.sl (((z6 x3p4 x6p9).1).nl) ((((z6 x3p4 x6p9).1).l).map S_Span.D) (zsl (((z6 x3p4 x6p9).1).nl) 2) none, B ((z6 x3p4 x6p9).2)]), (29, .agg [I x6p9.lo, I x6p9.hi]), (28, .agg [I x3p4.lo, I x3p4.hi]), (27, .fn (.func 92) [] []), (11, .lref 2 0 2 0), (25, .agg [I x6p9.lo, I x6p9.hi]), (24, .ptr (.agg [I x6p9.lo, I x6p9.hi])), (23, B true), (1, .sl q3p4_0.nl (q3p4_0.l.map S_Span.D) (zsl q3p4_0.nl 2) none), (2, .fn (.func 92) [] []), (7, .sl true [] 0 none), (9, .lref 1 0 2 0), (14, .sl a.nl (a.l.map S_Span.D) (zsl a.nl 2) none), (15, I ((a.l.length : Nat) : Int)), (16, I ((i3p4 : Nat) : Int)), (20, .sl q3p4_0.nl (q3p4_0.l.map S_Span.D) (zsl q3p4_0.nl 2) none), (21, I ((q3p4_0.l.length : Nat) : Int)), (22, I ((i6p9 : Nat) : Int))], [(1, ⟨[.agg [I x3p4.lo, I x3p4.hi]], 2, false⟩), (2, ⟨[.agg [I x6p9.lo, I x6p9.hi]], 2, false⟩), (3, ⟨(((z6 x3p4 x6p9).1).l).map S_Span.D, 2, false⟩)], 4, 1⟩)
def iv_ranges_pairs_3p4 (a : GS S_Span) (q3p4_0 : GS S_Span) : LR_ranges_pairs_3p4 → Prop
  | .x0 va3p4_0 => (va3p4_0.length ≤ 65 * a.l.length)
  | .x1 i3p4 x3p4 i6p8 x6p8 v6p8_0 => True
  | .x2 i3p4 x3p4 i6p8 x6p8 v6p8_0 => True
  | .x3 => True
  | .x4 i3p4 x3p4 i6p9 x6p9 va6p9_0 => True
  | .x5 i3p4 x3p4 i6p9 x6p9 va6p9_0 => True
  | .x6 i3p4 x3p4 i6p9 x6p9 => True
  | .x7 i3p4 x3p4 i6p9 x6p9 => True
theorem lp_ranges_pairs_3p4a (a : GS S_Span) (q3p4_0 : GS S_Span) : ∀ (rest3p4 : List S_Span) (i3p4 : Nat) (va3p4_0 : List S_Span) (hd3p4 : a.l.drop i3p4 = rest3p4) (hi3p4 : i3p4 ≤ a.l.length) (ha64 : a.l.length ≤ 64) (hb65 : q3p4_0.l.length ≤ 65) (hg3p4_va3p4_0 : va3p4_0.length ≤ 65 * i3p4) (hL3p4 : a.l.length ≤ 1099511627776), (lim cfg).loop 87 lp87_3 ⟨40, [(1, .sl q3p4_0.nl (q3p4_0.l.map S_Span.D) (zsl q3p4_0.nl 2) none), (2, .fn (.func 92) [] []), (7, .lsl 1 0 va3p4_0.length 2 none), (14, .sl a.nl (a.l.map S_Span.D) (zsl a.nl 2) none), (15, I ((a.l.length : Nat) : Int)), (16, I ((i3p4 : Nat) : Int))], [(1, ⟨va3p4_0.map S_Span.D, 2, false⟩)], 2, 1⟩ = some (lr_ranges_pairs_3p4 a q3p4_0 (ranges_pairs_3p4a q3p4_0 rest3p4 i3p4 va3p4_0)) := by
  intro rest3p4
  induction rest3p4 with
  | nil =>
    intro i3p4 va3p4_0 hd3p4 hi3p4 ha64 hb65 hg3p4_va3p4_0 hL3p4
    unfold ranges_pairs_3p4a
    obtain rfl : i3p4 = a.l.length := nil_eq hd3p4 hi3p4
    exact zF [.dec false] (And.intro (lt_no hd3p4) trivial) (by kernel_rfl)
  | cons x3p4 rest3p4 ih =>
    intro i3p4 va3p4_0 hd3p4 hi3p4 ha64 hb65 hg3p4_va3p4_0 hL3p4
    have hlt3p4 := ze hd3p4
    unfold ranges_pairs_3p4a
    have p1 := (el_at (s := a) (f := S_Span.D) (k := 2) hd3p4)
    have p2 := (gc_of (C := cfg) (f := 87) (a := lp87_6) (ks := [1, 2, 7, 9, 14, 15, 16, 20, 21, 22]) (st := (sd174 a i3p4 q3p4_0 x3p4 va3p4_0)) (st1 := (sd175 a i3p4 q3p4_0 x3p4 va3p4_0)) (by kernel_rfl) (by (simp only [sd174, sd175, go_sem, List.length_set, Nat.reduceAdd, Nat.reduceEqDiff, Nat.reduceLT, Nat.reduceLeDiff, bI2, zl.idsL, zl.renL, zl.snapAll, z8.idsL, z8.renL, z8.snapAll]) <;> rfl))
    cases h28 : ranges_pairs_6p8 x3p4 q3p4_0.l 0 va3p4_0 with
    | x0 v6p8_0 =>
      try dsimp only
      have hv_h28 := ivt_ranges_pairs_6p8 a i3p4 q3p4_0 x3p4 q3p4_0.l 0 va3p4_0 (List.drop_zero) (Nat.zero_le _) (by omega) (by omega) (by omega) (by omega)
      rw [h28] at hv_h28
      have hv_h28_0 := hv_h28
      try dsimp only [iv_ranges_pairs_6p8] at hv_h28_0
      exact po_turn' (ks := [1, 2, 7, 14, 15, 16]) (st' := (sd192 a i3p4 q3p4_0 x3p4 v6p8_0)) [.dec true, .el (.agg [I x3p4.lo, I x3p4.hi]), .rw 21 (I ((q3p4_0.l.length : Nat) : Int)), .gloop (sd175 a i3p4 q3p4_0 x3p4 va3p4_0) (.exit 2) (sd181 a i3p4 q3p4_0 x3p4 v6p8_0), .rw 38 (I ((i3p4 + 1 : Nat) : Int))] (And.intro (inc_rw (i := i3p4) (by have := ze hd3p4; omega)) (And.intro (po_lr (q := lr_ranges_pairs_6p8 a i3p4 q3p4_0 x3p4) (lp_ranges_pairs_6p8 a i3p4 q3p4_0 x3p4 q3p4_0.l 0 va3p4_0 (List.drop_zero) (Nat.zero_le _) (by omega) (by omega) (by omega) (by omega)) h28) (And.intro p2 (And.intro (zh S_Span.D q3p4_0) (And.intro p1 (And.intro (lt_at hd3p4) trivial)))))) (by kernel_rfl) (by (simp only [sd192, go_sem, List.length_set, Nat.reduceAdd, Nat.reduceEqDiff, Nat.reduceLT, Nat.reduceLeDiff, bI2, zl.idsL, zl.renL, zl.snapAll, z8.idsL, z8.renL, z8.snapAll]) <;> rfl) (ih (i3p4 + 1) v6p8_0 (zg hd3p4) (ze hd3p4) (by omega) (by omega) (by omega) (by omega)) (by kernel_rfl)
    | x1 i6p8 x6p8 v6p8_0 =>
      try dsimp only
      have hv_h28 := ivt_ranges_pairs_6p8 a i3p4 q3p4_0 x3p4 q3p4_0.l 0 va3p4_0 (List.drop_zero) (Nat.zero_le _) (by omega) (by omega) (by omega) (by omega)
      rw [h28] at hv_h28
      have hv_h28_0 := hv_h28
      try dsimp only [iv_ranges_pairs_6p8] at hv_h28_0
      exact zF [.dec true, .el (.agg [I x3p4.lo, I x3p4.hi]), .rw 21 (I ((q3p4_0.l.length : Nat) : Int)), .gloop (sd175 a i3p4 q3p4_0 x3p4 va3p4_0) (.exit 0) (sd182 a i3p4 q3p4_0 x3p4 i6p8 x6p8 v6p8_0)] (And.intro (po_lr (q := lr_ranges_pairs_6p8 a i3p4 q3p4_0 x3p4) (lp_ranges_pairs_6p8 a i3p4 q3p4_0 x3p4 q3p4_0.l 0 va3p4_0 (List.drop_zero) (Nat.zero_le _) (by omega) (by omega) (by omega) (by omega)) h28) (And.intro p2 (And.intro (zh S_Span.D q3p4_0) (And.intro p1 (And.intro (lt_at hd3p4) trivial))))) (by kernel_rfl)
    | x2 i6p8 x6p8 v6p8_0 =>
      try dsimp only
      have hv_h28 := ivt_ranges_pairs_6p8 a i3p4 q3p4_0 x3p4 q3p4_0.l 0 va3p4_0 (List.drop_zero) (Nat.zero_le _) (by omega) (by omega) (by omega) (by omega)
      rw [h28] at hv_h28
      have hv_h28_0 := hv_h28
      try dsimp only [iv_ranges_pairs_6p8] at hv_h28_0
      exact zF [.dec true, .el (.agg [I x3p4.lo, I x3p4.hi]), .rw 21 (I ((q3p4_0.l.length : Nat) : Int)), .gloop (sd175 a i3p4 q3p4_0 x3p4 va3p4_0) (.exit 0) (sd183 a i3p4 q3p4_0 x3p4 i6p8 x6p8 v6p8_0)] (And.intro (po_lr (q := lr_ranges_pairs_6p8 a i3p4 q3p4_0 x3p4) (lp_ranges_pairs_6p8 a i3p4 q3p4_0 x3p4 q3p4_0.l 0 va3p4_0 (List.drop_zero) (Nat.zero_le _) (by omega) (by omega) (by omega) (by omega)) h28) (And.intro p2 (And.intro (zh S_Span.D q3p4_0) (And.intro p1 (And.intro (lt_at hd3p4) trivial))))) (by kernel_rfl)
theorem ivt_ranges_pairs_3p4a (a : GS S_Span) (q3p4_0 : GS S_Span) : ∀ (rest3p4 : List S_Span) (i3p4 : Nat) (va3p4_0 : List S_Span) (hd3p4 : a.l.drop i3p4 = rest3p4) (hi3p4 : i3p4 ≤ a.l.length) (ha64 : a.l.length ≤ 64) (hb65 : q3p4_0.l.length ≤ 65) (hg3p4_va3p4_0 : va3p4_0.length ≤ 65 * i3p4) (hL3p4 : a.l.length ≤ 1099511627776), iv_ranges_pairs_3p4 a q3p4_0 (ranges_pairs_3p4a q3p4_0 rest3p4 i3p4 va3p4_0) := by
  intro rest3p4
  induction rest3p4 with
  | nil =>
    intro i3p4 va3p4_0 hd3p4 hi3p4 ha64 hb65 hg3p4_va3p4_0 hL3p4
    unfold ranges_pairs_3p4a
    obtain rfl : i3p4 = a.l.length := nil_eq hd3p4 hi3p4
    exact hg3p4_va3p4_0
  | cons x3p4 rest3p4 ih =>
    intro i3p4 va3p4_0 hd3p4 hi3p4 ha64 hb65 hg3p4_va3p4_0 hL3p4
    have hlt3p4 := ze hd3p4
    unfold ranges_pairs_3p4a
    cases h28 : ranges_pairs_6p8 x3p4 q3p4_0.l 0 va3p4_0 with
    | x0 v6p8_0 =>
      try dsimp only
      have hv_h28 := ivt_ranges_pairs_6p8 a i3p4 q3p4_0 x3p4 q3p4_0.l 0 va3p4_0 (List.drop_zero) (Nat.zero_le _) (by omega) (by omega) (by omega) (by omega)
      rw [h28] at hv_h28
      have hv_h28_0 := hv_h28
      try dsimp only [iv_ranges_pairs_6p8] at hv_h28_0
      exact ih (i3p4 + 1) v6p8_0 (zg hd3p4) (ze hd3p4) (by omega) (by omega) (by omega) (by omega)
    | x1 i6p8 x6p8 v6p8_0 =>
      try dsimp only
      have hv_h28 := ivt_ranges_pairs_6p8 a i3p4 q3p4_0 x3p4 q3p4_0.l 0 va3p4_0 (List.drop_zero) (Nat.zero_le _) (by omega) (by omega) (by omega) (by omega)
      rw [h28] at hv_h28
      have hv_h28_0 := hv_h28
      try dsimp only [iv_ranges_pairs_6p8] at hv_h28_0
      exact trivial
    | x2 i6p8 x6p8 v6p8_0 =>
      try dsimp only
      have hv_h28 := ivt_ranges_pairs_6p8 a i3p4 q3p4_0 x3p4 q3p4_0.l 0 va3p4_0 (List.drop_zero) (Nat.zero_le _) (by omega) (by omega) (by omega) (by omega)
      rw [h28] at hv_h28
      have hv_h28_0 := hv_h28
      try dsimp only [iv_ranges_pairs_6p8] at hv_h28_0
      exact trivial
theorem lp_ranges_pairs_3p4 (a : GS S_Span) (q3p4_0 : GS S_Span) : ∀ (rest3p4 : List S_Span) (i3p4 : Nat) (hd3p4 : a.l.drop i3p4 = rest3p4) (hi3p4 : i3p4 ≤ a.l.length) (ha64 : a.l.length ≤ 64) (hb65 : q3p4_0.l.length ≤ 65) (hL3p4 : a.l.length ≤ 1099511627776), (lim cfg).loop 87 lp87_3 ⟨40, [(1, .sl q3p4_0.nl (q3p4_0.l.map S_Span.D) (zsl q3p4_0.nl 2) none), (2, .fn (.func 92) [] []), (7, .sl true [] 0 none), (14, .sl a.nl (a.l.map S_Span.D) (zsl a.nl 2) none), (15, I ((a.l.length : Nat) : Int)), (16, I ((i3p4 : Nat) : Int))], [], 1, 1⟩ = some (lr_ranges_pairs_3p4 a q3p4_0 (ranges_pairs_3p4 q3p4_0 rest3p4 i3p4)) := by
  intro rest3p4
  induction rest3p4 with
  | nil =>
    intro i3p4 hd3p4 hi3p4 ha64 hb65 hL3p4
    unfold ranges_pairs_3p4
    obtain rfl : i3p4 = a.l.length := nil_eq hd3p4 hi3p4
    exact zF [.dec false] (And.intro (lt_no hd3p4) trivial) (by kernel_rfl)
  | cons x3p4 rest3p4 ih =>
    intro i3p4 hd3p4 hi3p4 ha64 hb65 hL3p4
    have hlt3p4 := ze hd3p4
    unfold ranges_pairs_3p4
    have p1 := (el_at (s := a) (f := S_Span.D) (k := 2) hd3p4)
    cases h41 : ranges_pairs_6p9 x3p4 q3p4_0.l 0 with
    | x0 va6p9_0 =>
      try dsimp only
      have hv_h41 := ivt_ranges_pairs_6p9 a i3p4 q3p4_0 x3p4 q3p4_0.l 0 (List.drop_zero) (Nat.zero_le _) (by omega) (by omega) (by omega)
      rw [h41] at hv_h41
      have hv_h41_0 := hv_h41
      try dsimp only [iv_ranges_pairs_6p9] at hv_h41_0
      exact po_turn' (ks := [1, 2, 7, 14, 15, 16]) (st' := (sd193 a i3p4 q3p4_0 x3p4 va6p9_0)) [.dec true, .el (.agg [I x3p4.lo, I x3p4.hi]), .rw 21 (I ((q3p4_0.l.length : Nat) : Int)), .loop (.exit 2) (sd187 a i3p4 q3p4_0 x3p4 va6p9_0), .rw 38 (I ((i3p4 + 1 : Nat) : Int))] (And.intro (inc_rw (i := i3p4) (by have := ze hd3p4; omega)) (And.intro (po_lr (q := lr_ranges_pairs_6p9 a i3p4 q3p4_0 x3p4) (lp_ranges_pairs_6p9 a i3p4 q3p4_0 x3p4 q3p4_0.l 0 (List.drop_zero) (Nat.zero_le _) (by omega) (by omega) (by omega)) h41) (And.intro (zh S_Span.D q3p4_0) (And.intro p1 (And.intro (lt_at hd3p4) trivial))))) (by kernel_rfl) (by (simp only [sd193, go_sem, List.length_set, Nat.reduceAdd, Nat.reduceEqDiff, Nat.reduceLT, Nat.reduceLeDiff, bI2, zl.idsL, zl.renL, zl.snapAll, z8.idsL, z8.renL, z8.snapAll]) <;> rfl) (lp_ranges_pairs_3p4a a q3p4_0 _ (i3p4 + 1) va6p9_0 (zg hd3p4) (ze hd3p4) (by omega) (by omega) (by omega) (by omega)) (by kernel_rfl)
    | x1 i6p9 x6p9 va6p9_0 =>
      try dsimp only
      have hv_h41 := ivt_ranges_pairs_6p9 a i3p4 q3p4_0 x3p4 q3p4_0.l 0 (List.drop_zero) (Nat.zero_le _) (by omega) (by omega) (by omega)
      rw [h41] at hv_h41
      have hv_h41_0 := hv_h41
      try dsimp only [iv_ranges_pairs_6p9] at hv_h41_0
      exact zF [.dec true, .el (.agg [I x3p4.lo, I x3p4.hi]), .rw 21 (I ((q3p4_0.l.length : Nat) : Int)), .loop (.exit 0) (sd188 a i3p4 q3p4_0 x3p4 i6p9 x6p9 va6p9_0)] (And.intro (po_lr (q := lr_ranges_pairs_6p9 a i3p4 q3p4_0 x3p4) (lp_ranges_pairs_6p9 a i3p4 q3p4_0 x3p4 q3p4_0.l 0 (List.drop_zero) (Nat.zero_le _) (by omega) (by omega) (by omega)) h41) (And.intro (zh S_Span.D q3p4_0) (And.intro p1 (And.intro (lt_at hd3p4) trivial)))) (by kernel_rfl)
    | x2 i6p9 x6p9 va6p9_0 =>
      try dsimp only
      have hv_h41 := ivt_ranges_pairs_6p9 a i3p4 q3p4_0 x3p4 q3p4_0.l 0 (List.drop_zero) (Nat.zero_le _) (by omega) (by omega) (by omega)
      rw [h41] at hv_h41
      have hv_h41_0 := hv_h41
      try dsimp only [iv_ranges_pairs_6p9] at hv_h41_0
      exact zF [.dec true, .el (.agg [I x3p4.lo, I x3p4.hi]), .rw 21 (I ((q3p4_0.l.length : Nat) : Int)), .loop (.exit 0) (sd189 a i3p4 q3p4_0 x3p4 i6p9 x6p9 va6p9_0)] (And.intro (po_lr (q := lr_ranges_pairs_6p9 a i3p4 q3p4_0 x3p4) (lp_ranges_pairs_6p9 a i3p4 q3p4_0 x3p4 q3p4_0.l 0 (List.drop_zero) (Nat.zero_le _) (by omega) (by omega) (by omega)) h41) (And.intro (zh S_Span.D q3p4_0) (And.intro p1 (And.intro (lt_at hd3p4) trivial)))) (by kernel_rfl)
    | x3 =>
      try dsimp only
      exact po_turn [.dec true, .el (.agg [I x3p4.lo, I x3p4.hi]), .rw 21 (I ((q3p4_0.l.length : Nat) : Int)), .loop (.exit 2) (sd169 a i3p4 q3p4_0 x3p4), .rw 38 (I ((i3p4 + 1 : Nat) : Int))] (And.intro (inc_rw (i := i3p4) (by have := ze hd3p4; omega)) (And.intro (po_lr (q := lr_ranges_pairs_6p9 a i3p4 q3p4_0 x3p4) (lp_ranges_pairs_6p9 a i3p4 q3p4_0 x3p4 q3p4_0.l 0 (List.drop_zero) (Nat.zero_le _) (by omega) (by omega) (by omega)) h41) (And.intro (zh S_Span.D q3p4_0) (And.intro p1 (And.intro (lt_at hd3p4) trivial))))) (ih (i3p4 + 1) (zg hd3p4) (ze hd3p4) (by omega) (by omega) (by omega)) (by kernel_rfl)
    | x4 i6p9 x6p9 =>
      try dsimp only
      exact zF [.dec true, .el (.agg [I x3p4.lo, I x3p4.hi]), .rw 21 (I ((q3p4_0.l.length : Nat) : Int)), .loop (.exit 0) (sd190 a i3p4 q3p4_0 x3p4 i6p9 x6p9)] (And.intro (po_lr (q := lr_ranges_pairs_6p9 a i3p4 q3p4_0 x3p4) (lp_ranges_pairs_6p9 a i3p4 q3p4_0 x3p4 q3p4_0.l 0 (List.drop_zero) (Nat.zero_le _) (by omega) (by omega) (by omega)) h41) (And.intro (zh S_Span.D q3p4_0) (And.intro p1 (And.intro (lt_at hd3p4) trivial)))) (by kernel_rfl)
    | x5 i6p9 x6p9 =>
      try dsimp only
      exact zF [.dec true, .el (.agg [I x3p4.lo, I x3p4.hi]), .rw 21 (I ((q3p4_0.l.length : Nat) : Int)), .loop (.exit 0) (sd191 a i3p4 q3p4_0 x3p4 i6p9 x6p9)] (And.intro (po_lr (q := lr_ranges_pairs_6p9 a i3p4 q3p4_0 x3p4) (lp_ranges_pairs_6p9 a i3p4 q3p4_0 x3p4 q3p4_0.l 0 (List.drop_zero) (Nat.zero_le _) (by omega) (by omega) (by omega)) h41) (And.intro (zh S_Span.D q3p4_0) (And.intro p1 (And.intro (lt_at hd3p4) trivial)))) (by kernel_rfl)
theorem ivt_ranges_pairs_3p4 (a : GS S_Span) (q3p4_0 : GS S_Span) : ∀ (rest3p4 : List S_Span) (i3p4 : Nat) (hd3p4 : a.l.drop i3p4 = rest3p4) (hi3p4 : i3p4 ≤ a.l.length) (ha64 : a.l.length ≤ 64) (hb65 : q3p4_0.l.length ≤ 65) (hL3p4 : a.l.length ≤ 1099511627776), iv_ranges_pairs_3p4 a q3p4_0 (ranges_pairs_3p4 q3p4_0 rest3p4 i3p4) := by
  intro rest3p4
  induction rest3p4 with
  | nil =>
    intro i3p4 hd3p4 hi3p4 ha64 hb65 hL3p4
    unfold ranges_pairs_3p4
    obtain rfl : i3p4 = a.l.length := nil_eq hd3p4 hi3p4
    exact trivial
  | cons x3p4 rest3p4 ih =>
    intro i3p4 hd3p4 hi3p4 ha64 hb65 hL3p4
    have hlt3p4 := ze hd3p4
    unfold ranges_pairs_3p4
    cases h41 : ranges_pairs_6p9 x3p4 q3p4_0.l 0 with
    | x0 va6p9_0 =>
      try dsimp only
      have hv_h41 := ivt_ranges_pairs_6p9 a i3p4 q3p4_0 x3p4 q3p4_0.l 0 (List.drop_zero) (Nat.zero_le _) (by omega) (by omega) (by omega)
      rw [h41] at hv_h41
      have hv_h41_0 := hv_h41
      try dsimp only [iv_ranges_pairs_6p9] at hv_h41_0
      exact ivt_ranges_pairs_3p4a a q3p4_0 _ (i3p4 + 1) va6p9_0 (zg hd3p4) (ze hd3p4) (by omega) (by omega) (by omega) (by omega)
    | x1 i6p9 x6p9 va6p9_0 =>
      try dsimp only
      have hv_h41 := ivt_ranges_pairs_6p9 a i3p4 q3p4_0 x3p4 q3p4_0.l 0 (List.drop_zero) (Nat.zero_le _) (by omega) (by omega) (by omega)
      rw [h41] at hv_h41
      have hv_h41_0 := hv_h41
      try dsimp only [iv_ranges_pairs_6p9] at hv_h41_0
      exact trivial
    | x2 i6p9 x6p9 va6p9_0 =>
      try dsimp only
      have hv_h41 := ivt_ranges_pairs_6p9 a i3p4 q3p4_0 x3p4 q3p4_0.l 0 (List.drop_zero) (Nat.zero_le _) (by omega) (by omega) (by omega)
      rw [h41] at hv_h41
      have hv_h41_0 := hv_h41
      try dsimp only [iv_ranges_pairs_6p9] at hv_h41_0
      exact trivial
    | x3 =>
      try dsimp only
      exact ih (i3p4 + 1) (zg hd3p4) (ze hd3p4) (by omega) (by omega) (by omega)
    | x4 i6p9 x6p9 =>
      try dsimp only
      exact trivial
    | x5 i6p9 x6p9 =>
      try dsimp only
      exact trivial

def zd (a : GS S_Span) (b : GS S_Span) : Bool × Int :=
  bif ((ranges_check (GS.some [a, b])) != 0) then
    (false, (ranges_check (GS.some [a, b])))
  else
    match ranges_pairs_3p4 (za b) a.l 0 with
    | .x0 va3p4_0 =>
      bif (((va3p4_0.length : Nat) : Int) == 0) then
        (true, 0)
      else
        (false, 0)
    | .x1 i3p4 x3p4 i6p8 x6p8 v6p8_0 =>
      bif (((v6p8_0.length : Nat) : Int) == 0) then
        (true, 0)
      else
        (false, 0)
    | .x2 i3p4 x3p4 i6p8 x6p8 v6p8_0 =>
      bif ((((v6p8_0 ++ (((z6 x3p4 x6p8).1).l)).length : Nat) : Int) == 0) then
        (true, 0)
      else
        (false, 0)
    | .x3 =>
      (true, 0)
    | .x4 i3p4 x3p4 i6p9 x6p9 va6p9_0 =>
      bif (((va6p9_0.length : Nat) : Int) == 0) then
        (true, 0)
      else
        (false, 0)
    | .x5 i3p4 x3p4 i6p9 x6p9 va6p9_0 =>
      bif ((((va6p9_0 ++ (((z6 x3p4 x6p9).1).l)).length : Nat) : Int) == 0) then
        (true, 0)
      else
        (false, 0)
    | .x6 i3p4 x3p4 i6p9 x6p9 =>
      (true, 0)
    | .x7 i3p4 x3p4 i6p9 x6p9 =>
      bif ((((((z6 x3p4 x6p9).1).l).length : Nat) : Int) == 0) then
        (true, 0)
      else
        (false, 0)

def zR (a : GS S_Span) (b : GS S_Span) : List Ora := [.pure (I (ranges_check (GS.some [a, b]))), .dec false, .pure (.sl ((za b).nl) (((za b).l).map S_Span.D) (zsl ((za b).nl) 2) none)]

def ranges_Within_o2 (x3p4 : S_Span) (x6p8 : S_Span) (v6p8_0 : List S_Span) : List Ora := [.inl (.lsl 1 0 v6p8_0.length 2 none) [(1, ⟨v6p8_0.map S_Span.D, 2, false⟩), (2, ⟨[.agg [I x3p4.lo, I x3p4.hi]], 2, false⟩), (3, ⟨[.agg [I x6p8.lo, I x6p8.hi]], 2, false⟩)] 4]

def ranges_Within_o3 (x3p4 : S_Span) (x6p8 : S_Span) (v6p8_0 : List S_Span) : List Ora := [.inl (.lsl 4 0 ((v6p8_0 ++ (((z6 x3p4 x6p8).1).l)).length) 2 none) [(2, ⟨[.agg [I x3p4.lo, I x3p4.hi]], 2, false⟩), (3, ⟨[.agg [I x6p8.lo, I x6p8.hi]], 2, false⟩), (4, ⟨(v6p8_0 ++ (((z6 x3p4 x6p8).1).l)).map S_Span.D, 2, false⟩)] 5]

def ranges_Within_o4 (x3p4 : S_Span) (x6p9 : S_Span) (va6p9_0 : List S_Span) : List Ora := [.inl (.lsl 1 0 va6p9_0.length 2 none) [(1, ⟨va6p9_0.map S_Span.D, 2, false⟩), (2, ⟨[.agg [I x3p4.lo, I x3p4.hi]], 2, false⟩), (3, ⟨[.agg [I x6p9.lo, I x6p9.hi]], 2, false⟩)] 4]

def ranges_Within_o5 (x3p4 : S_Span) (x6p9 : S_Span) (va6p9_0 : List S_Span) : List Ora := [.inl (.lsl 4 0 ((va6p9_0 ++ (((z6 x3p4 x6p9).1).l)).length) 2 none) [(2, ⟨[.agg [I x3p4.lo, I x3p4.hi]], 2, false⟩), (3, ⟨[.agg [I x6p9.lo, I x6p9.hi]], 2, false⟩), (4, ⟨(va6p9_0 ++ (((z6 x3p4 x6p9).1).l)).map S_Span.D, 2, false⟩)] 5]

def ranges_Within_o6 (x3p4 : S_Span) (x6p9 : S_Span) : List Ora := [.inl (.lsl 3 0 ((((z6 x3p4 x6p9).1).l).length) 2 none) [(1, ⟨[.agg [I x3p4.lo, I x3p4.hi]], 2, false⟩), (2, ⟨[.agg [I x6p9.lo, I x6p9.hi]], 2, false⟩), (3, ⟨(((z6 x3p4 x6p9).1).l).map S_Span.D, 2, false⟩)] 4]

def sd194 (a : GS S_Span) (b : GS S_Span) (va3p4_0 : List S_Span) : St := ⟨40, [(17, B false), (1, .sl ((za b).nl) (((za b).l).map S_Span.D) (zsl ((za b).nl) 2) none), (2, .fn (.func 92) [] []), (7, .lsl 1 0 va3p4_0.length 2 none), (14, .sl a.nl (a.l.map S_Span.D) (zsl a.nl 2) none), (15, I ((a.l.length : Nat) : Int)), (16, I ((a.l.length : Nat) : Int))], [(1, ⟨va3p4_0.map S_Span.D, 2, false⟩)], 2, 1⟩

def sd195 (a : GS S_Span) (b : GS S_Span) (i3p4 : Nat) (x3p4 : S_Span) (i6p8 : Nat) (x6p8 : S_Span) (v6p8_0 : List S_Span) : St := ⟨40, [(36, B true), (7, .lsl 1 0 v6p8_0.length 2 none), (35, .lsl 1 0 v6p8_0.length 2 none), (34, .sl (((z6 x3p4 x6p8).1).nl) ((((z6 x3p4 x6p8).1).l).map S_Span.D) (zsl (((z6 x3p4 x6p8).1).nl) 2) none), (33, .lsl 1 0 v6p8_0.length 2 none), (13, B true), (12, .sl (((z6 x3p4 x6p8).1).nl) ((((z6 x3p4 x6p8).1).l).map S_Span.D) (zsl (((z6 x3p4 x6p8).1).nl) 2) none), (32, B true), (31, .sl (((z6 x3p4 x6p8).1).nl) ((((z6 x3p4 x6p8).1).l).map S_Span.D) (zsl (((z6 x3p4 x6p8).1).nl) 2) none), (26, .tup [.sl (((z6 x3p4 x6p8).1).nl) ((((z6 x3p4 x6p8).1).l).map S_Span.D) (zsl (((z6 x3p4 x6p8).1).nl) 2) none, B ((z6 x3p4 x6p8).2)]), (30, .tup [.sl (((z6 x3p4 x6p8).1).nl) ((((z6 x3p4 x6p8).1).l).map S_Span.D) (zsl (((z6 x3p4 x6p8).1).nl) 2) none, B ((z6 x3p4 x6p8).2)]), (29, .agg [I x6p8.lo, I x6p8.hi]), (28, .agg [I x3p4.lo, I x3p4.hi]), (27, .fn (.func 92) [] []), (11, .lref 3 0 2 0), (25, .agg [I x6p8.lo, I x6p8.hi]), (24, .ptr (.agg [I x6p8.lo, I x6p8.hi])), (23, B true), (1, .sl ((za b).nl) (((za b).l).map S_Span.D) (zsl ((za b).nl) 2) none), (2, .fn (.func 92) [] []), (7, .lsl 1 0 v6p8_0.length 2 none), (9, .lref 2 0 2 0), (14, .sl a.nl (a.l.map S_Span.D) (zsl a.nl 2) none), (15, I ((a.l.length : Nat) : Int)), (16, I ((i3p4 : Nat) : Int)), (20, .sl ((za b).nl) (((za b).l).map S_Span.D) (zsl ((za b).nl) 2) none), (21, I (((za b).l.length : Nat) : Int)), (22, I ((i6p8 : Nat) : Int))], [(1, ⟨v6p8_0.map S_Span.D, 2, false⟩), (2, ⟨[.agg [I x3p4.lo, I x3p4.hi]], 2, false⟩), (3, ⟨[.agg [I x6p8.lo, I x6p8.hi]], 2, false⟩)], 4, 1⟩

def sd196 (a : GS S_Span) (b : GS S_Span) (i3p4 : Nat) (x3p4 : S_Span) (i6p8 : Nat) (x6p8 : S_Span) (v6p8_0 : List S_Span) : St := ⟨40, [(36, B true), (7, .lsl 4 0 ((v6p8_0 ++ (((z6 x3p4 x6p8).1).l)).length) 2 none), (35, .lsl 4 0 ((v6p8_0 ++ (((z6 x3p4 x6p8).1).l)).length) 2 none), (34, .sl (((z6 x3p4 x6p8).1).nl) ((((z6 x3p4 x6p8).1).l).map S_Span.D) (zsl (((z6 x3p4 x6p8).1).nl) 2) none), (33, .lsl 1 0 v6p8_0.length 2 none), (13, B true), (12, .sl (((z6 x3p4 x6p8).1).nl) ((((z6 x3p4 x6p8).1).l).map S_Span.D) (zsl (((z6 x3p4 x6p8).1).nl) 2) none), (32, B true), (31, .sl (((z6 x3p4 x6p8).1).nl) ((((z6 x3p4 x6p8).1).l).map S_Span.D) (zsl (((z6 x3p4 x6p8).1).nl) 2) none), (26, .tup [.sl (((z6 x3p4 x6p8).1).nl) ((((z6 x3p4 x6p8).1).l).map S_Span.D) (zsl (((z6 x3p4 x6p8).1).nl) 2) none, B ((z6 x3p4 x6p8).2)]), (30, .tup [.sl (((z6 x3p4 x6p8).1).nl) ((((z6 x3p4 x6p8).1).l).map S_Span.D) (zsl (((z6 x3p4 x6p8).1).nl) 2) none, B ((z6 x3p4 x6p8).2)]), (29, .agg [I x6p8.lo, I x6p8.hi]), (28, .agg [I x3p4.lo, I x3p4.hi]), (27, .fn (.func 92) [] []), (11, .lref 3 0 2 0), (25, .agg [I x6p8.lo, I x6p8.hi]), (24, .ptr (.agg [I x6p8.lo, I x6p8.hi])), (23, B true), (1, .sl ((za b).nl) (((za b).l).map S_Span.D) (zsl ((za b).nl) 2) none), (2, .fn (.func 92) [] []), (7, .lsl 1 0 v6p8_0.length 2 none), (9, .lref 2 0 2 0), (14, .sl a.nl (a.l.map S_Span.D) (zsl a.nl 2) none), (15, I ((a.l.length : Nat) : Int)), (16, I ((i3p4 : Nat) : Int)), (20, .sl ((za b).nl) (((za b).l).map S_Span.D) (zsl ((za b).nl) 2) none), (21, I (((za b).l.length : Nat) : Int)), (22, I ((i6p8 : Nat) : Int))], [(2, ⟨[.agg [I x3p4.lo, I x3p4.hi]], 2, false⟩), (3, ⟨[.agg [I x6p8.lo, I x6p8.hi]], 2, false⟩), (4, ⟨(v6p8_0 ++ (((z6 x3p4 x6p8).1).l)).map S_Span.D, 2, false⟩)], 5, 1⟩

def sd197 (a : GS S_Span) (b : GS S_Span) : St := ⟨40, [(17, B false), (1, .sl ((za b).nl) (((za b).l).map S_Span.D) (zsl ((za b).nl) 2) none), (2, .fn (.func 92) [] []), (7, .sl true [] 0 none), (14, .sl a.nl (a.l.map S_Span.D) (zsl a.nl 2) none), (15, I ((a.l.length : Nat) : Int)), (16, I ((a.l.length : Nat) : Int))], [], 1, 1⟩

def sd198 (a : GS S_Span) (b : GS S_Span) (i3p4 : Nat) (x3p4 : S_Span) (i6p9 : Nat) (x6p9 : S_Span) (va6p9_0 : List S_Span) : St := ⟨40, [(36, B true), (7, .lsl 1 0 va6p9_0.length 2 none), (35, .lsl 1 0 va6p9_0.length 2 none), (34, .sl (((z6 x3p4 x6p9).1).nl) ((((z6 x3p4 x6p9).1).l).map S_Span.D) (zsl (((z6 x3p4 x6p9).1).nl) 2) none), (33, .lsl 1 0 va6p9_0.length 2 none), (13, B true), (12, .sl (((z6 x3p4 x6p9).1).nl) ((((z6 x3p4 x6p9).1).l).map S_Span.D) (zsl (((z6 x3p4 x6p9).1).nl) 2) none), (32, B true), (31, .sl (((z6 x3p4 x6p9).1).nl) ((((z6 x3p4 x6p9).1).l).map S_Span.D) (zsl (((z6 x3p4 x6p9).1).nl) 2) none), (26, .tup [.sl (((z6 x3p4 x6p9).1).nl) ((((z6 x3p4 x6p9).1).l).map S_Span.D) (zsl (((z6 x3p4 x6p9).1).nl) 2) none, B ((z6 x3p4 x6p9).2)]), (30, .tup [.sl (((z6 x3p4 x6p9).1).nl) ((((z6 x3p4 x6p9).1).l).map S_Span.D) (zsl (((z6 x3p4 x6p9).1).nl) 2) none, B ((z6 x3p4 x6p9).2)]), (29, .agg [I x6p9.lo, I x6p9.hi]), (28, .agg [I x3p4.lo, I x3p4.hi]), (27, .fn (.func 92) [] []), (11, .lref 3 0 2 0), (25, .agg [I x6p9.lo, I x6p9.hi]), (24, .ptr (.agg [I x6p9.lo, I x6p9.hi])), (23, B true), (1, .sl ((za b).nl) (((za b).l).map S_Span.D) (zsl ((za b).nl) 2) none), (2, .fn (.func 92) [] []), (7, .lsl 1 0 va6p9_0.length 2 none), (9, .lref 2 0 2 0), (14, .sl a.nl (a.l.map S_Span.D) (zsl a.nl 2) none), (15, I ((a.l.length : Nat) : Int)), (16, I ((i3p4 : Nat) : Int)), (20, .sl ((za b).nl) (((za b).l).map S_Span.D) (zsl ((za b).nl) 2) none), (21, I (((za b).l.length : Nat) : Int)), (22, I ((i6p9 : Nat) : Int))], [(1, ⟨va6p9_0.map S_Span.D, 2, false⟩), (2, ⟨[.agg [I x3p4.lo, I x3p4.hi]], 2, false⟩), (3, ⟨[.agg [I x6p9.lo, I x6p9.hi]], 2, false⟩)], 4, 1⟩

def sd199 (a : GS S_Span) (b : GS S_Span) (i3p4 : Nat) (x3p4 : S_Span) (i6p9 : Nat) (x6p9 : S_Span) (va6p9_0 : List S_Span) : St := ⟨40, [(36, B true), (7, .lsl 4 0 ((va6p9_0 ++ (((z6 x3p4 x6p9).1).l)).length) 2 none), (35, .lsl 4 0 ((va6p9_0 ++ (((z6 x3p4 x6p9).1).l)).length) 2 none), (34, .sl (((z6 x3p4 x6p9).1).nl) ((((z6 x3p4 x6p9).1).l).map S_Span.D) (zsl (((z6 x3p4 x6p9).1).nl) 2) none), (33, .lsl 1 0 va6p9_0.length 2 none), (13, B true), (12, .sl (((z6 x3p4 x6p9).1).nl) ((((z6 x3p4 x6p9).1).l).map S_Span.D) (zsl (((z6 x3p4 x6p9).1).nl) 2) none), (32, B true), (31, .sl (((z6 x3p4 x6p9).1).nl) ((((z6 x3p4 x6p9).1).l).map S_Span.D) (zsl (((z6 x3p4 x6p9).1).nl) 2) none), (26, .tup [.sl (((z6 x3p4 x6p9).1).nl) ((((z6 x3p4 x6p9).1).l).map S_Span.D) (zsl (((z6 x3p4 x6p9).1).nl) 2) none, B ((z6 x3p4 x6p9).2)]), (30, .tup [.sl (((z6 x3p4 x6p9).1).nl) ((((z6 x3p4 x6p9).1).l).map S_Span.D) (zsl (((z6 x3p4 x6p9).1).nl) 2) none, B ((z6 x3p4 x6p9).2)]), (29, .agg [I x6p9.lo, I x6p9.hi]), (28, .agg [I x3p4.lo, I x3p4.hi]), (27, .fn (.func 92) [] []), (11, .lref 3 0 2 0), (25, .agg [I x6p9.lo, I x6p9.hi]), (24, .ptr (.agg [I x6p9.lo, I x6p9.hi])), (23, B true), (1, .sl ((za b).nl) (((za b).l).map S_Span.D) (zsl ((za b).nl) 2) none), (2, .fn (.func 92) [] []), (7, .lsl 1 0 va6p9_0.length 2 none), (9, .lref 2 0 2 0), (14, .sl a.nl (a.l.map S_Span.D) (zsl a.nl 2) none), (15, I ((a.l.length : Nat) : Int)), (16, I ((i3p4 : Nat) : Int)), (20, .sl ((za b).nl) (((za b).l).map S_Span.D) (zsl ((za b).nl) 2) none), (21, I (((za b).l.length : Nat) : Int)), (22, I ((i6p9 : Nat) : Int))], [(2, ⟨[.agg [I x3p4.lo, I x3p4.hi]], 2, false⟩), (3, ⟨[.agg [I x6p9.lo, I x6p9.hi]], 2, false⟩), (4, ⟨(va6p9_0 ++ (((z6 x3p4 x6p9).1).l)).map S_Span.D, 2, false⟩)], 5, 1⟩

def sd200 (a : GS S_Span) (b : GS S_Span) (i3p4 : Nat) (x3p4 : S_Span) (i6p9 : Nat) (x6p9 : S_Span) : St := ⟨40, [(36, B true), (7, .sl true [] 0 none), (35, .sl true [] 0 none), (34, .sl (((z6 x3p4 x6p9).1).nl) ((((z6 x3p4 x6p9).1).l).map S_Span.D) (zsl (((z6 x3p4 x6p9).1).nl) 2) none), (33, .sl true [] 0 none), (13, B true), (12, .sl (((z6 x3p4 x6p9).1).nl) ((((z6 x3p4 x6p9).1).l).map S_Span.D) (zsl (((z6 x3p4 x6p9).1).nl) 2) none), (32, B true), (31, .sl (((z6 x3p4 x6p9).1).nl) ((((z6 x3p4 x6p9).1).l).map S_Span.D) (zsl (((z6 x3p4 x6p9).1).nl) 2) none), (26, .tup [.sl (((z6 x3p4 x6p9).1).nl) ((((z6 x3p4 x6p9).1).l).map S_Span.D) (zsl (((z6 x3p4 x6p9).1).nl) 2) none, B ((z6 x3p4 x6p9).2)]), (30, .tup [.sl (((z6 x3p4 x6p9).1).nl) ((((z6 x3p4 x6p9).1).l).map S_Span.D) (zsl (((z6 x3p4 x6p9).1).nl) 2) none, B ((z6 x3p4 x6p9).2)]), (29, .agg [I x6p9.lo, I x6p9.hi]), (28, .agg [I x3p4.lo, I x3p4.hi]), (27, .fn (.func 92) [] []), (11, .lref 2 0 2 0), (25, .agg [I x6p9.lo, I x6p9.hi]), (24, .ptr (.agg [I x6p9.lo, I x6p9.hi])), (23, B true), (1, .sl ((za b).nl) (((za b).l).map S_Span.D) (zsl ((za b).nl) 2) none), (2, .fn (.func 92) [] []), (7, .sl true [] 0 none), (9, .lref 1 0 2 0), (14, .sl a.nl (a.l.map S_Span.D) (zsl a.nl 2) none), (15, I ((a.l.length : Nat) : Int)), (16, I ((i3p4 : Nat) : Int)), (20, .sl ((za b).nl) (((za b).l).map S_Span.D) (zsl ((za b).nl) 2) none), (21, I (((za b).l.length : Nat) : Int)), (22, I ((i6p9 : Nat) : Int))], [(1, ⟨[.agg [I x3p4.lo, I x3p4.hi]], 2, false⟩), (2, ⟨[.agg [I x6p9.lo, I x6p9.hi]], 2, false⟩)], 3, 1⟩

def sd201 (a : GS S_Span) (b : GS S_Span) (i3p4 : Nat) (x3p4 : S_Span) (i6p9 : Nat) (x6p9 : S_Span) : St := ⟨40, [(36, B true), (7, .lsl 3 0 ((((z6 x3p4 x6p9).1).l).length) 2 none), (35, .lsl 3 0 ((((z6 x3p4 x6p9).1).l).length) 2 none), (34, .sl (((z6 x3p4 x6p9).1).nl) ((((z6 x3p4 x6p9).1).l).map S_Span.D) (zsl (((z6 x3p4 x6p9).1).nl) 2) none), (33, .sl true [] 0 none), (13, B true), (12, .sl (((z6 x3p4 x6p9).1).nl) ((((z6 x3p4 x6p9).1).l).map S_Span.D) (zsl (((z6 x3p4 x6p9).1).nl) 2) none), (32, B true), (31, .sl (((z6 x3p4 x6p9).1).nl) ((((z6 x3p4 x6p9).1).l).map S_Span.D) (zsl (((z6 x3p4 x6p9).1).nl) 2) none), (26, .tup [.sl (((z6 x3p4 x6p9).1).nl) ((((z6 x3p4 x6p9).1).l).map S_Span.D) (zsl (((z6 x3p4 x6p9).1).nl) 2) none, B ((z6 x3p4 x6p9).2)]), (30, .tup [.sl (((z6 x3p4 x6p9).1).nl) ((((z6 x3p4 x6p9).1).l).map S_Span.D) (zsl (((z6 x3p4 x6p9).1).nl) 2) none, B ((z6 x3p4 x6p9).2)]), (29, .agg [I x6p9.lo, I x6p9.hi]), (28, .agg [I x3p4.lo, I x3p4.hi]), (27, .fn (.func 92) [] []), (11, .lref 2 0 2 0), (25, .agg [I x6p9.lo, I x6p9.hi]), (24, .ptr (.agg [I x6p9.lo, I x6p9.hi])), (23, B true), (1, .sl ((za b).nl) (((za b).l).map S_Span.D) (zsl ((za b).nl) 2) none), (2, .fn (.func 92) [] []), (7, .sl true [] 0 none), (9, .lref 1 0 2 0), (14, .sl a.nl (a.l.map S_Span.D) (zsl a.nl 2) none), (15, I ((a.l.length : Nat) : Int)), (16, I ((i3p4 : Nat) : Int)), (20, .sl ((za b).nl) (((za b).l).map S_Span.D) (zsl ((za b).nl) 2) none), (21, I (((za b).l.length : Nat) : Int)), (22, I ((i6p9 : Nat) : Int))], [(1, ⟨[.agg [I x3p4.lo, I x3p4.hi]], 2, false⟩), (2, ⟨[.agg [I x6p9.lo, I x6p9.hi]], 2, false⟩), (3, ⟨(((z6 x3p4 x6p9).1).l).map S_Span.D, 2, false⟩)], 4, 1⟩

theorem T_ranges_Within (a : GS S_Span) (b : GS S_Span) (hLa : a.l.length ≤ 9223372036854775807) (hLb : b.l.length ≤ 9223372036854775807) (hL_b : b.l.length ≤ 1099511627776) : (lim cfg).pure 35 [GS.D S_Span.D 2 a, GS.D S_Span.D 2 b] = some (.tup [B ((zd a b).1), I ((zd a b).2)]) := by
  unfold zd
  have p1 := (T_ranges_check (GS.some [a, b]) (by exact two_bd (by omega) (by omega)) (by simp only [srtL, GS.some_l, List.length_set, List.length_append, List.length_cons, List.length_nil] at * <;> first | with_reducible assumption | omega))
  cases h1 : ((ranges_check (GS.some [a, b])) != 0) with
  | true =>
    have g1 := bne_true h1
    exact zj [.pure (I (ranges_check (GS.some [a, b]))), .dec true] (And.intro h1 (And.intro p1 trivial)) (by kernel_rfl)
  | false =>
    have g1 := check2_len (bne_false h1)
    have p2 := (T_ranges_outside b (by omega) (by omega))
    cases h42 : ranges_pairs_3p4 (za b) a.l 0 with
    | x0 va3p4_0 =>
      try dsimp only
      have hv_h42 := ivt_ranges_pairs_3p4 a (za b) a.l 0 (List.drop_zero) (Nat.zero_le _) (by omega) (by exact zC _ (by omega)) (by omega)
      rw [h42] at hv_h42
      have hv_h42_0 := hv_h42
      try dsimp only [iv_ranges_pairs_3p4] at hv_h42_0
      have p3 := (show (lim cfg).inl 87 [.sl a.nl (a.l.map S_Span.D) (zsl a.nl 2) none, .sl ((za b).nl) (((za b).l).map S_Span.D) (zsl ((za b).nl) 2) none, .fn (.func 92) [] []] [] 1 = some (.lsl 1 0 va3p4_0.length 2 none, [(1, ⟨va3p4_0.map S_Span.D, 2, false⟩)], 2) from po_inl [.rw 15 (I ((a.l.length : Nat) : Int)), .loop (.exit 0) (sd194 a b va3p4_0)] (And.intro (po_lr (q := lr_ranges_pairs_3p4 a (za b)) (lp_ranges_pairs_3p4 a (za b) a.l 0 (List.drop_zero) (Nat.zero_le _) (by omega) (by exact zC _ (by omega)) (by omega)) h42) (And.intro (zh S_Span.D a) trivial)) (by kernel_rfl))
      cases h43 : (((va3p4_0.length : Nat) : Int) == 0) with
      | true =>
        have g43 := eq_of_beq h43
        exact zj ((zR a b) ++ [.inl (.lsl 1 0 va3p4_0.length 2 none) [(1, ⟨va3p4_0.map S_Span.D, 2, false⟩)] 2, .dec true]) (And.intro h43 (And.intro p3 (And.intro p2 (And.intro h1 (And.intro p1 trivial))))) (by kernel_rfl)
      | false =>
        have g43 := ne_of_beq_false h43
        exact zj ((zR a b) ++ [.inl (.lsl 1 0 va3p4_0.length 2 none) [(1, ⟨va3p4_0.map S_Span.D, 2, false⟩)] 2, .dec false]) (And.intro h43 (And.intro p3 (And.intro p2 (And.intro h1 (And.intro p1 trivial))))) (by kernel_rfl)
    | x1 i3p4 x3p4 i6p8 x6p8 v6p8_0 =>
      try dsimp only
      have p4 := (show (lim cfg).inl 87 [.sl a.nl (a.l.map S_Span.D) (zsl a.nl 2) none, .sl ((za b).nl) (((za b).l).map S_Span.D) (zsl ((za b).nl) 2) none, .fn (.func 92) [] []] [] 1 = some (.lsl 1 0 v6p8_0.length 2 none, [(1, ⟨v6p8_0.map S_Span.D, 2, false⟩), (2, ⟨[.agg [I x3p4.lo, I x3p4.hi]], 2, false⟩), (3, ⟨[.agg [I x6p8.lo, I x6p8.hi]], 2, false⟩)], 4) from po_inl [.rw 15 (I ((a.l.length : Nat) : Int)), .loop (.exit 0) (sd195 a b i3p4 x3p4 i6p8 x6p8 v6p8_0)] (And.intro (po_lr (q := lr_ranges_pairs_3p4 a (za b)) (lp_ranges_pairs_3p4 a (za b) a.l 0 (List.drop_zero) (Nat.zero_le _) (by omega) (by exact zC _ (by omega)) (by omega)) h42) (And.intro (zh S_Span.D a) trivial)) (by kernel_rfl))
      cases h44 : (((v6p8_0.length : Nat) : Int) == 0) with
      | true =>
        have g44 := eq_of_beq h44
        exact zj ((zR a b) ++ ((ranges_Within_o2 x3p4 x6p8 v6p8_0) ++ [.dec true])) (And.intro h44 (And.intro p4 (And.intro p2 (And.intro h1 (And.intro p1 trivial))))) (by kernel_rfl)
      | false =>
        have g44 := ne_of_beq_false h44
        exact zj ((zR a b) ++ ((ranges_Within_o2 x3p4 x6p8 v6p8_0) ++ [.dec false])) (And.intro h44 (And.intro p4 (And.intro p2 (And.intro h1 (And.intro p1 trivial))))) (by kernel_rfl)
    | x2 i3p4 x3p4 i6p8 x6p8 v6p8_0 =>
      try dsimp only
      have p5 := (show (lim cfg).inl 87 [.sl a.nl (a.l.map S_Span.D) (zsl a.nl 2) none, .sl ((za b).nl) (((za b).l).map S_Span.D) (zsl ((za b).nl) 2) none, .fn (.func 92) [] []] [] 1 = some (.lsl 4 0 ((v6p8_0 ++ (((z6 x3p4 x6p8).1).l)).length) 2 none, [(2, ⟨[.agg [I x3p4.lo, I x3p4.hi]], 2, false⟩), (3, ⟨[.agg [I x6p8.lo, I x6p8.hi]], 2, false⟩), (4, ⟨(v6p8_0 ++ (((z6 x3p4 x6p8).1).l)).map S_Span.D, 2, false⟩)], 5) from po_inl [.rw 15 (I ((a.l.length : Nat) : Int)), .loop (.exit 0) (sd196 a b i3p4 x3p4 i6p8 x6p8 v6p8_0)] (And.intro (po_lr (q := lr_ranges_pairs_3p4 a (za b)) (lp_ranges_pairs_3p4 a (za b) a.l 0 (List.drop_zero) (Nat.zero_le _) (by omega) (by exact zC _ (by omega)) (by omega)) h42) (And.intro (zh S_Span.D a) trivial)) (by kernel_rfl))
      cases h45 : ((((v6p8_0 ++ (((z6 x3p4 x6p8).1).l)).length : Nat) : Int) == 0) with
      | true =>
        have g45 := eq_of_beq h45
        exact zj ((zR a b) ++ ((ranges_Within_o3 x3p4 x6p8 v6p8_0) ++ [.dec true])) (And.intro h45 (And.intro p5 (And.intro p2 (And.intro h1 (And.intro p1 trivial))))) (by kernel_rfl)
      | false =>
        have g45 := ne_of_beq_false h45
        exact zj ((zR a b) ++ ((ranges_Within_o3 x3p4 x6p8 v6p8_0) ++ [.dec false])) (And.intro h45 (And.intro p5 (And.intro p2 (And.intro h1 (And.intro p1 trivial))))) (by kernel_rfl)
    | x3 =>
      try dsimp only
      exact zj ((zR a b) ++ [.inl (.sl true [] 0 none) [] 1, .dec true]) (And.intro (Eq.refl true) (And.intro (show (lim cfg).inl 87 [.sl a.nl (a.l.map S_Span.D) (zsl a.nl 2) none, .sl ((za b).nl) (((za b).l).map S_Span.D) (zsl ((za b).nl) 2) none, .fn (.func 92) [] []] [] 1 = some (.sl true [] 0 none, [], 1) from po_inl [.rw 15 (I ((a.l.length : Nat) : Int)), .loop (.exit 0) (sd197 a b)] (And.intro (po_lr (q := lr_ranges_pairs_3p4 a (za b)) (lp_ranges_pairs_3p4 a (za b) a.l 0 (List.drop_zero) (Nat.zero_le _) (by omega) (by exact zC _ (by omega)) (by omega)) h42) (And.intro (zh S_Span.D a) trivial)) (by kernel_rfl)) (And.intro p2 (And.intro h1 (And.intro p1 trivial))))) (by kernel_rfl)
    | x4 i3p4 x3p4 i6p9 x6p9 va6p9_0 =>
      try dsimp only
      have p6 := (show (lim cfg).inl 87 [.sl a.nl (a.l.map S_Span.D) (zsl a.nl 2) none, .sl ((za b).nl) (((za b).l).map S_Span.D) (zsl ((za b).nl) 2) none, .fn (.func 92) [] []] [] 1 = some (.lsl 1 0 va6p9_0.length 2 none, [(1, ⟨va6p9_0.map S_Span.D, 2, false⟩), (2, ⟨[.agg [I x3p4.lo, I x3p4.hi]], 2, false⟩), (3, ⟨[.agg [I x6p9.lo, I x6p9.hi]], 2, false⟩)], 4) from po_inl [.rw 15 (I ((a.l.length : Nat) : Int)), .loop (.exit 0) (sd198 a b i3p4 x3p4 i6p9 x6p9 va6p9_0)] (And.intro (po_lr (q := lr_ranges_pairs_3p4 a (za b)) (lp_ranges_pairs_3p4 a (za b) a.l 0 (List.drop_zero) (Nat.zero_le _) (by omega) (by exact zC _ (by omega)) (by omega)) h42) (And.intro (zh S_Span.D a) trivial)) (by kernel_rfl))
      cases h46 : (((va6p9_0.length : Nat) : Int) == 0) with
      | true =>
        have g46 := eq_of_beq h46
        exact zj ((zR a b) ++ ((ranges_Within_o4 x3p4 x6p9 va6p9_0) ++ [.dec true])) (And.intro h46 (And.intro p6 (And.intro p2 (And.intro h1 (And.intro p1 trivial))))) (by kernel_rfl)
      | false =>
        have g46 := ne_of_beq_false h46
        exact zj ((zR a b) ++ ((ranges_Within_o4 x3p4 x6p9 va6p9_0) ++ [.dec false])) (And.intro h46 (And.intro p6 (And.intro p2 (And.intro h1 (And.intro p1 trivial))))) (by kernel_rfl)
    | x5 i3p4 x3p4 i6p9 x6p9 va6p9_0 =>
      try dsimp only
      have p7 := (show (lim cfg).inl 87 [.sl a.nl (a.l.map S_Span.D) (zsl a.nl 2) none, .sl ((za b).nl) (((za b).l).map S_Span.D) (zsl ((za b).nl) 2) none, .fn (.func 92) [] []] [] 1 = some (.lsl 4 0 ((va6p9_0 ++ (((z6 x3p4 x6p9).1).l)).length) 2 none, [(2, ⟨[.agg [I x3p4.lo, I x3p4.hi]], 2, false⟩), (3, ⟨[.agg [I x6p9.lo, I x6p9.hi]], 2, false⟩), (4, ⟨(va6p9_0 ++ (((z6 x3p4 x6p9).1).l)).map S_Span.D, 2, false⟩)], 5) from po_inl [.rw 15 (I ((a.l.length : Nat) : Int)), .loop (.exit 0) (sd199 a b i3p4 x3p4 i6p9 x6p9 va6p9_0)] (And.intro (po_lr (q := lr_ranges_pairs_3p4 a (za b)) (lp_ranges_pairs_3p4 a (za b) a.l 0 (List.drop_zero) (Nat.zero_le _) (by omega) (by exact zC _ (by omega)) (by omega)) h42) (And.intro (zh S_Span.D a) trivial)) (by kernel_rfl))
      cases h47 : ((((va6p9_0 ++ (((z6 x3p4 x6p9).1).l)).length : Nat) : Int) == 0) with
      | true =>
        have g47 := eq_of_beq h47
        exact zj ((zR a b) ++ ((ranges_Within_o5 x3p4 x6p9 va6p9_0) ++ [.dec true])) (And.intro h47 (And.intro p7 (And.intro p2 (And.intro h1 (And.intro p1 trivial))))) (by kernel_rfl)
      | false =>
        have g47 := ne_of_beq_false h47
        exact zj ((zR a b) ++ ((ranges_Within_o5 x3p4 x6p9 va6p9_0) ++ [.dec false])) (And.intro h47 (And.intro p7 (And.intro p2 (And.intro h1 (And.intro p1 trivial))))) (by kernel_rfl)
    | x6 i3p4 x3p4 i6p9 x6p9 =>
      try dsimp only
      exact zj ((zR a b) ++ [.inl (.sl true [] 0 none) [(1, ⟨[.agg [I x3p4.lo, I x3p4.hi]], 2, false⟩), (2, ⟨[.agg [I x6p9.lo, I x6p9.hi]], 2, false⟩)] 3, .dec true]) (And.intro (Eq.refl true) (And.intro (show (lim cfg).inl 87 [.sl a.nl (a.l.map S_Span.D) (zsl a.nl 2) none, .sl ((za b).nl) (((za b).l).map S_Span.D) (zsl ((za b).nl) 2) none, .fn (.func 92) [] []] [] 1 = some (.sl true [] 0 none, [(1, ⟨[.agg [I x3p4.lo, I x3p4.hi]], 2, false⟩), (2, ⟨[.agg [I x6p9.lo, I x6p9.hi]], 2, false⟩)], 3) from po_inl [.rw 15 (I ((a.l.length : Nat) : Int)), .loop (.exit 0) (sd200 a b i3p4 x3p4 i6p9 x6p9)] (And.intro (po_lr (q := lr_ranges_pairs_3p4 a (za b)) (lp_ranges_pairs_3p4 a (za b) a.l 0 (List.drop_zero) (Nat.zero_le _) (by omega) (by exact zC _ (by omega)) (by omega)) h42) (And.intro (zh S_Span.D a) trivial)) (by kernel_rfl)) (And.intro p2 (And.intro h1 (And.intro p1 trivial))))) (by kernel_rfl)
    | x7 i3p4 x3p4 i6p9 x6p9 =>
      try dsimp only
      have p8 := (show (lim cfg).inl 87 [.sl a.nl (a.l.map S_Span.D) (zsl a.nl 2) none, .sl ((za b).nl) (((za b).l).map S_Span.D) (zsl ((za b).nl) 2) none, .fn (.func 92) [] []] [] 1 = some (.lsl 3 0 ((((z6 x3p4 x6p9).1).l).length) 2 none, [(1, ⟨[.agg [I x3p4.lo, I x3p4.hi]], 2, false⟩), (2, ⟨[.agg [I x6p9.lo, I x6p9.hi]], 2, false⟩), (3, ⟨(((z6 x3p4 x6p9).1).l).map S_Span.D, 2, false⟩)], 4) from po_inl [.rw 15 (I ((a.l.length : Nat) : Int)), .loop (.exit 0) (sd201 a b i3p4 x3p4 i6p9 x6p9)] (And.intro (po_lr (q := lr_ranges_pairs_3p4 a (za b)) (lp_ranges_pairs_3p4 a (za b) a.l 0 (List.drop_zero) (Nat.zero_le _) (by omega) (by exact zC _ (by omega)) (by omega)) h42) (And.intro (zh S_Span.D a) trivial)) (by kernel_rfl))
      cases h48 : ((((((z6 x3p4 x6p9).1).l).length : Nat) : Int) == 0) with
      | true =>
        have g48 := eq_of_beq h48
        exact zj ((zR a b) ++ ((ranges_Within_o6 x3p4 x6p9) ++ [.dec true])) (And.intro h48 (And.intro p8 (And.intro p2 (And.intro h1 (And.intro p1 trivial))))) (by kernel_rfl)
      | false =>
        have g48 := ne_of_beq_false h48
        exact zj ((zR a b) ++ ((ranges_Within_o6 x3p4 x6p9) ++ [.dec false])) (And.intro h48 (And.intro p8 (And.intro p2 (And.intro h1 (And.intro p1 trivial))))) (by kernel_rfl)
end Go.VS

/-
  Ranges: Hull, Next, Near, plainly. (A text of this claim's own; nothing of it is trusted.)
-/
namespace Go.VS
open Go
set_option maxHeartbeats 0
/-! ### Near -/
def Di (m z : Int) : Int := max (z - m) (m - z)
/-- The nearest of a set; of two the lesser one. -/
def Nst (m : Int) (S : Int → Prop) (v : Int) : Prop := S v ∧ ∀ z, S z → Di m v ≤ Di m z ∧ (Di m z = Di m v → v ≤ z)
theorem Nst.congr {m : Int} {S T : Int → Prop} {v : Int} (h : Nst m S v) (e : ∀ z, S z ↔ T z) : Nst m T v := ⟨(e v).1 h.1, fun z hz => h.2 z ((e z).2 hz)⟩
end Go.VS

/-
  Ranges: errors that do not come of valid ranges. (A text of this claim's own; nothing of it is trusted.)
-/
namespace Go.VS
open Go
section
variable {r : GS S_Span} (h : r_Valid r = true)
include h
end
end Go.VS

/-
  Ranges: work, plainly. (A text of this claim's own; nothing of it is trusted.)
-/
namespace Go.VS
open Go
/-- What is taken of an answer: nothing, if it did not fit. -/
def takeR (r : GS S_Span) (e : Int) : GS S_Span := bif (e == 2) then GS.nil else r
def takeL (L : Bool) (e : Int) : Bool := bif (e == 2) then true else L
/-- An answer that may be taken. -/
def Tkn (r : GS S_Span) (e : Int) : Prop := (e = 2 ∧ r = GS.nil) ∨ (e = 0 ∧ Ok r.l)
theorem tk_len {r : GS S_Span} {e : Int} (h : Tkn r e) (h2 : (e == 2) = false) : r.l.length ≤ 9223372036854775807 := by
  rcases h with ⟨rfl, _⟩ | ⟨rfl, h⟩
  · cases h2
  · exact Nat.le_trans h.2.2 (by decide)
theorem ok64 {r : GS S_Span} (h : Ok r.l) : r.l.length ≤ 64 := h.2.2
theorem gr_len {l : List S_Span} {res : GS S_Span × Int} (h : GR l res) : res.1.l.length ≤ 64 := by
  rcases h with ⟨_, h2, h3, _⟩ | ⟨_, h⟩
  · rw [h3]; exact h2
  · rw [h]; simp [GS.nil]
theorem ok_len {r : GS S_Span} (h : Ok r.l) : r.l.length ≤ 9223372036854775807 := Nat.le_trans h.2.2 (by decide)
/-- Whether a value taken stands for a set, or nothing fits any more. -/
def Tk (L : Bool) (S : Int → Prop) (r : GS S_Span) : Prop := L = true ∨ (Ok r.l ∧ Rg S r.l)
theorem Tk.take {L : Bool} {S : Int → Prop} {res : GS S_Span × Int} (h : Res S res) : Tk (takeL L res.2) S (takeR res.1 res.2) := by
  unfold takeL takeR
  rcases h with ⟨h1, h2, h3⟩ | h
  · right; rw [h1]; exact ⟨h2, h3⟩
  · left; rw [h]; rfl
end Go.VS

/-
  Ranges: what Of, Union, Shift and Within come to (printed by go/rj.py, a program of this claim's own; nothing of it is trusted).
-/
namespace Go.VS
open Go
set_option maxHeartbeats 0

def ofF (s : S_Span) : List S_Span := someS s.lo s.hi
theorem of1_l (s : S_Span) : (zi s).l = ofF s := some_l _ _
theorem each3a_eq : ∀ (l v : List S_Span), ranges_each_3a l v = .x0 (v ++ l.flatMap ofF)
  | [], v => by simp [ranges_each_3a]
  | y :: l, v => by
    unfold ranges_each_3a
    rw [emp_app (fun z => ranges_each_3a l z), each3a_eq l _, List.flatMap_cons, List.append_assoc, of1_l]
theorem each3_eq : ∀ (l : List S_Span), (l.flatMap ofF = [] ∧ ranges_each_3 l = .x1) ∨ (l.flatMap ofF ≠ [] ∧ ranges_each_3 l = .x0 (l.flatMap ofF))
  | [] => .inl ⟨rfl, rfl⟩
  | y :: l => by
    unfold ranges_each_3
    rw [of1_l]
    cases h : (ofF y).isEmpty with
    | true =>
      rw [flat_cons_emp h]
      exact each3_eq l
    | false =>
      right
      simp only [cond_false]
      rw [each3a_eq, List.flatMap_cons]
      refine ⟨fun k => ?_, rfl⟩
      rw [(List.append_eq_nil_iff.1 k).1] at h; cases h
theorem of_len : ∀ l : List S_Span, (l.flatMap ofF).length ≤ l.length
  | [] => Nat.le_refl _
  | y :: l => by
    rw [List.flatMap_cons, List.length_append, List.length_cons]
    have := of_len l
    have : (ofF y).length ≤ 1 := some_len
    omega
theorem In_of {l : List S_Span} {x : Int} : In (l.flatMap ofF) x ↔ In l x := by
  rw [In_flat]
  constructor
  · rintro ⟨a, ha, h⟩
    have := In_some.1 h
    exact ⟨a, ha, this.1, this.2⟩
  · rintro ⟨a, ha, h1, h2⟩
    exact ⟨a, ha, In_some.2 ⟨h1, h2⟩⟩
theorem Of_gr {l : GS S_Span} (hl : l.l.length ≤ 1099511627776) : GR (l.l.flatMap ofF) (zo l) := by
  unfold zo
  have := of_len l.l
  rcases each3_eq l.l with ⟨k1, k2⟩ | ⟨k1, k2⟩ <;> rw [k2] <;> dsimp only
  · rw [k1]; exact GR_nil
  · generalize l.l.flatMap ofF = q at *
    rcases ranges_gathered_4_at (l := q) k1 (by omega) with ⟨g1, g2⟩ | ⟨g1, g2⟩
    · rw [g2]; exact GR_end g1
    · refine .inr ⟨.inl g1, ?_⟩
      revert g2
      cases ranges_gathered_4 (srtG gcmp q) 0 <;> intro g2 <;> first | rfl | cases g2
def sh1 (k : Int) (s : S_Span) : List S_Span := (zv s k).l
theorem each3c_eq (k : Int) : ∀ (l v : List S_Span), zQ k l v = .x0 (v ++ l.flatMap (sh1 k))
  | [], v => by simp [zQ]
  | y :: l, v => by
    unfold zQ
    rw [emp_app (fun z => zQ k l z), each3c_eq k l _, List.flatMap_cons, List.append_assoc, Bool.cond_self]; rfl
theorem each3a'_eq (k : Int) : ∀ (l v : List S_Span), ranges_each_3p1a k l v = .x0 (v ++ l.flatMap (sh1 k)) ∨ ranges_each_3p1a k l v = .x1 (v ++ l.flatMap (sh1 k))
  | [], v => by right; simp [ranges_each_3p1a]
  | y :: l, v => by
    unfold ranges_each_3p1a
    rw [emp_app (fun z => ranges_each_3p1a k l z), emp_app (fun z => zQ k l z), each3c_eq k l _, List.flatMap_cons, ← List.append_assoc]
    cases (zv y k).nl with
    | false => exact .inl rfl
    | true => exact each3a'_eq k l _
theorem each3b_eq (k : Int) : ∀ (l : List S_Span), (l.flatMap (sh1 k) = [] ∧ ranges_each_3p1b k l = .x2) ∨ (l.flatMap (sh1 k) ≠ [] ∧ ranges_each_3p1b k l = .x0 (l.flatMap (sh1 k)))
  | [] => .inl ⟨rfl, rfl⟩
  | y :: l => by
    unfold ranges_each_3p1b
    rw [Bool.cond_self]
    cases h : ((zv y k).l).isEmpty with
    | true =>
      rw [flat_cons_emp (f := sh1 k) h]
      exact each3b_eq k l
    | false =>
      right
      simp only [cond_false]
      rw [each3c_eq, List.flatMap_cons]
      refine ⟨fun z => ?_, rfl⟩
      have h2 : (zv y k).l = [] := (List.append_eq_nil_iff.1 z).1
      rw [h2] at h; cases h
theorem each3'_eq (k : Int) : ∀ (l : List S_Span), (l.flatMap (sh1 k) = [] ∧ (ranges_each_3p1 k l = .x2 ∨ ranges_each_3p1 k l = .x3)) ∨ (l.flatMap (sh1 k) ≠ [] ∧ (ranges_each_3p1 k l = .x0 (l.flatMap (sh1 k)) ∨ ranges_each_3p1 k l = .x1 (l.flatMap (sh1 k))))
  | [] => .inl ⟨rfl, .inr rfl⟩
  | y :: l => by
    unfold ranges_each_3p1
    cases h : ((zv y k).l).isEmpty with
    | true =>
      rw [flat_cons_emp (f := sh1 k) h]
      cases (zv y k).nl with
      | true => exact each3'_eq k l
      | false =>
        rcases each3b_eq k l with ⟨h1, h2⟩ | ⟨h1, h2⟩
        · exact .inl ⟨h1, .inl h2⟩
        · exact .inr ⟨h1, .inl h2⟩
    | false =>
      right
      refine ⟨fun z => ?_, ?_⟩
      · rw [List.flatMap_cons] at z
        have h2 : (zv y k).l = [] := (List.append_eq_nil_iff.1 z).1
        rw [h2] at h; cases h
      · rw [List.flatMap_cons]
        cases (zv y k).nl with
        | true => exact each3a'_eq k l _
        | false => exact .inl (each3c_eq k l _)
theorem Shift_emp {r : GS S_Span} {k : Int} (h : r.l = []) : ranges_Shift r k = (GS.nil, 0) := by
  have hr : Ok r.l := by rw [h]; exact ⟨trivial, (fun s hs => by cases hs), by simp⟩
  unfold ranges_Shift
  rw [check_iff.2 hr, h]
  rfl
theorem Shift_far {r : GS S_Span} {k : Int} (hr : Ok r.l) (h : r.l ≠ []) (hk : ¬ (-2199023255552 ≤ k ∧ k ≤ 2199023255552)) : ranges_Shift r k = (GS.nil, 2) := by
  unfold ranges_Shift
  have e : ranges_in k (-2199023255552) 2199023255552 = false := by
    cases h : ranges_in k (-2199023255552) 2199023255552
    · rfl
    · exact absurd (in_iff.1 h) hk
  have hp : decide (((r.l.length : Nat) : Int) > 0) = true := decide_eq_true (by have := List.length_pos_iff.2 h; omega)
  rw [check_iff.2 hr, e, hp]; rfl
theorem shi_len (k : Int) : ∀ l : List S_Span, (l.flatMap (sh1 k)).length ≤ l.length
  | [] => Nat.le_refl _
  | y :: l => by
    rw [List.flatMap_cons, List.length_append, List.length_cons]
    have := shi_len k l
    have : (sh1 k y).length ≤ 1 := shift1_len _ _
    omega
theorem Shift_gr {r : GS S_Span} {k : Int} (hr : Ok r.l) (hk : -2199023255552 ≤ k ∧ k ≤ 2199023255552) : GR (shiL r.l k) (ranges_Shift r k) := by
  by_cases hne : r.l = []
  · rw [Shift_emp hne, hne]; exact GR_nil
  have hq : r.l.flatMap (sh1 k) = shiL r.l k := by
    have : ∀ l : List S_Span, (∀ s ∈ l, s.lo ≤ s.hi ∧ -1099511627776 ≤ s.lo ∧ s.hi ≤ 1099511627776) → l.flatMap (sh1 k) = shiL l k := by
      intro l
      induction l with
      | nil => intro _; rfl
      | cons s l ih =>
        intro h
        have hs := h s List.mem_cons_self
        rw [List.flatMap_cons, ih fun t ht => h t (List.mem_cons_of_mem _ ht)]
        unfold sh1 zv
        rw [w64_eq (by omega) (by omega), w64_eq (by omega) (by omega), some_l]
        unfold shiL
        rw [List.flatMap_cons]
    exact this r.l fun s hs => (by have h1 := cn_mem hr.1 hs; have h2 := hr.2.1 s hs; omega)
  have hp : decide (((r.l.length : Nat) : Int) > 0) = true := decide_eq_true (by have := List.length_pos_iff.2 hne; omega)
  unfold ranges_Shift
  rw [check_iff.2 hr, hp, in_iff.2 hk]
  simp only [bne_self_eq_false, cond_false, cond_true]
  have hl := shi_len k r.l
  have hl2 := hr.2.2
  rw [← hq]
  rcases each3'_eq k r.l with ⟨k1, k2 | k2⟩ | ⟨k1, k2 | k2⟩ <;> rw [k2] <;> dsimp only
  · rw [k1]; exact GR_nil
  · rw [k1]; exact GR_nil
  · generalize r.l.flatMap (sh1 k) = q at *
    rcases ranges_gathered_4p1_at (l := q) k1 (by omega) with ⟨g1, g2⟩ | ⟨g1, g2⟩
    · rw [g2]; exact GR_end g1
    · refine .inr ⟨.inl g1, ?_⟩
      revert g2
      cases ranges_gathered_4p1 (srtG gcmp q) 0 <;> intro g2 <;> first | rfl | cases g2
  · generalize r.l.flatMap (sh1 k) = q at *
    rcases ranges_gathered_4p1_at (l := q) k1 (by omega) with ⟨g1, g2⟩ | ⟨g1, g2⟩
    · rw [g2]; exact GR_end g1
    · refine .inr ⟨.inl g1, ?_⟩
      revert g2
      cases ranges_gathered_4p1 (srtG gcmp q) 0 <;> intro g2 <;> first | rfl | cases g2
theorem shift_res {r : GS S_Span} {k : Int} (hr : Ok r.l) : Res (fun x => In r.l (x - k)) (ranges_Shift r k) := by
  by_cases hk : -2199023255552 ≤ k ∧ k ≤ 2199023255552
  · exact ((Shift_gr hr hk).res (flat_ne fun a _ => some_ne)).congr fun x => In_shift
  · by_cases hne : r.l = []
    · rw [Shift_emp hne, hne]
      exact .inl ⟨rfl, ⟨trivial, (fun s hs => by cases hs), by simp [GS.nil]⟩, trivial, fun x => ⟨fun h => absurd h In_nil, fun h => absurd h In_nil⟩⟩
    · rw [Shift_far hr hne hk]; exact .inr rfl

theorem within1 (x y : S_Span) : ((z6 x y).1).l = comF x y ∧ (z6 x y).2 = !(comF x y).isEmpty := by
  have e : (zc (imax x.lo y.lo) (imin x.hi y.hi)).l = comF x y := by rw [some_l, imax_eq, imin_eq]; rfl
  unfold z6
  rw [e]
  cases h : comF x y with
  | nil => exact ⟨e.trans h, rfl⟩
  | cons s l =>
    rw [decide_eq_true (by simp only [List.length_cons]; omega)]
    exact ⟨e.trans h, rfl⟩
theorem p69_eq (x : S_Span) : ∀ (l : List S_Span) (i : Nat), (l.flatMap (comF x) = [] ∧ ranges_pairs_6p9 x l i = .x3) ∨ (∃ j y, ranges_pairs_6p9 x l i = .x5 j y ∧ comF x y ≠ [] ∧ l.flatMap (comF x) ≠ [])
  | [], i => .inl ⟨rfl, rfl⟩
  | y :: l, i => by
    unfold ranges_pairs_6p9
    rw [(within1 x y).1, (within1 x y).2]
    cases h : (comF x y).isEmpty with
    | true =>
      rw [flat_cons_emp h]
      exact p69_eq x l (i + 1)
    | false =>
      right
      have hne : comF x y ≠ [] := by simpa using h
      refine ⟨i, y, rfl, hne, fun k => ?_⟩
      rw [List.flatMap_cons] at k
      exact hne (List.append_eq_nil_iff.1 k).1
theorem p34_eq (q : GS S_Span) : ∀ (l : List S_Span) (i : Nat), (pairsL l q.l comF = [] ∧ ranges_pairs_3p4 q l i = .x3) ∨ (∃ j x k y, ranges_pairs_3p4 q l i = .x7 j x k y ∧ comF x y ≠ [] ∧ pairsL l q.l comF ≠ [])
  | [], i => .inl ⟨rfl, rfl⟩
  | x :: l, i => by
    unfold ranges_pairs_3p4
    have e : pairsL (x :: l) q.l comF = q.l.flatMap (comF x) ++ pairsL l q.l comF := rfl
    rw [e]
    rcases p69_eq x q.l 0 with ⟨h1, h2⟩ | ⟨j, y, h2, h3, h4⟩ <;> rw [h2] <;> dsimp only
    · rw [h1]; exact p34_eq q l (i + 1)
    · exact .inr ⟨i, x, j, y, rfl, h3, fun k => h4 (List.append_eq_nil_iff.1 k).1⟩
theorem within_ok {a b : GS S_Span} (ha : Ok a.l) (hb : Ok b.l) : ∃ z, zd a b = (z, 0) ∧ (z = true ↔ ∀ x, In a.l x → In b.l x) := by
  unfold zd
  rw [check2_iff.2 ⟨ha, hb⟩]
  simp only [bne_self_eq_false, cond_false]
  have w := within_iff ha.1 ha.2.1 hb.1 hb.2.1
  rw [← outside_eq hb.2.1] at w
  rcases p34_eq (za b) a.l 0 with ⟨h1, h2⟩ | ⟨j, x, k, y, h2, h3, h4⟩ <;> rw [h2] <;> dsimp only
  · exact ⟨true, rfl, fun _ => w.1 h1, fun _ => rfl⟩
  · rw [(within1 x y).1]
    refine ⟨false, ?_, fun z => (by cases z), fun z => absurd (w.2 z) h4⟩
    cases hc : comF x y with
    | nil => exact absurd hc h3
    | cons s l =>
      have : ((((s :: l).length : Nat) : Int) == 0) = false := by simp only [List.length_cons]; exact beq_eq_false_iff_ne.2 (by omega)
      rw [this]; rfl
end Go.VS

/-
  Ranges: Size, plainly; how many elements lie above a number. (A text of this claim's own; nothing of it is trusted.)
-/
namespace Go.VS
open Go
set_option maxHeartbeats 0
end Go.VS

/-
  Ranges: what is taken of the operations' answers, plainly. (A text of this claim's own; nothing of it is trusted.)
-/
namespace Go.VS
open Go
set_option maxHeartbeats 0
theorem Tk.lift {L : Bool} {S : Int → Prop} {res : GS S_Span × Int} (h : L = true ∨ Res S res) : Tk (takeL L res.2) S (takeR res.1 res.2) := by
  rcases h with h | h
  · left; rw [h]; unfold takeL; cases (res.2 == 2) <;> rfl
  · exact Tk.take h
theorem Tk.base {L : Bool} {r : GS S_Span} (h : Ok r.l) : Tk L (In r.l) r := .inr ⟨h, h.1, fun _ => Iff.rfl⟩
section
variable {L : Bool} {S T : Int → Prop} {a b : GS S_Span}
theorem Tk.shift (k : Int) (ha : Tk L S a) : Tk (takeL L (ranges_Shift a k).2) (fun x => S (x - k)) (takeR (ranges_Shift a k).1 (ranges_Shift a k).2) := by
  refine Tk.lift ?_
  rcases ha with h | ⟨ha, ra⟩
  · exact .inl h
  exact .inr ((shift_res ha).congr fun x => ra.2 _)
theorem zK (ha : Ok a.l) (hb : Ok b.l) : ((zd a b).2 == 0) = true := by
  obtain ⟨z, e, _⟩ := within_ok ha hb
  rw [e]; rfl
/-- Whether all of one is in the other. -/
theorem Tk.within (ha : Tk L S a) (hb : Tk L T b) : L = true ∨ ((zd a b).1 = true ↔ ∀ x, S x → T x) := by
  rcases ha with h | ⟨ha, ra⟩
  · exact .inl h
  rcases hb with h | ⟨hb, rb⟩
  · exact .inl h
  obtain ⟨z, e, k⟩ := within_ok ha hb
  right
  rw [e]
  simp only [ra.2, rb.2] at k
  exact k
theorem Tk.same_iff (ha : Tk L S a) (hb : Tk L T b) : L = true ∨ (zq a b = true ↔ ∀ x, S x ↔ T x) := by
  rcases ha with h | ⟨ha, ra⟩
  · exact .inl h
  rcases hb with h | ⟨hb, rb⟩
  · exact .inl h
  right
  rw [_root_.Go.VS.same_iff]
  constructor
  · intro h x
    rw [← ra.2, ← rb.2, h]
  · exact fun h => ra.eq rb h
end
end Go.VS

