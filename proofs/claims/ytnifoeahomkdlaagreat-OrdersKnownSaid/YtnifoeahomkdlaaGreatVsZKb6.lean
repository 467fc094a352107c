/- Nothing of a statement is proved in this text alone: it is part 6 of the proof's own tools, an evaluator of the code over deep values, its soundness, and what it makes of this seat's functions. Conditions: none beyond the statement's own. -/
import Derived.Test.YtnifoeahomkdlaaGreatVsZKb5
import Derived.OpenShut
import Derived.Deep.Slices
import Derived.ChangeStays
import Derived.ReadAgain
import Derived.ChangeSame
import Derived.ChangeBears2
import Derived.Test.YtnifoeahomkdlaaGreatRows
import Derived.WalkKit
import Derived.ProofKit
import Derived.Deep.DeepHandedRow
import Derived.Lib.LaidTab
set_option linter.unusedSimpArgs false
set_option linter.unusedVariables false
namespace Go.VS
open Go Go.Proofs
set_option maxHeartbeats 0
set_option linter.unusedSimpArgs false
set_option linter.unusedVariables false
theorem GS.nil_l {α : Type} : (GS.nil : GS α).l = [] := rfl
theorem rfirst1 {e : S_Estate} {item : Int} (h : r_first e (GS.some [item]) = 0) : (1 ≤ e.items.l.length ∧ e.items.l.length ≤ 12) ∧ 0 ≤ item ∧ item < ((e.items.l.length : Nat) : Int) := by
  obtain ⟨h1, h2⟩ := rfirst_ok (by simp [GS.some]) h
  exact ⟨⟨h1.1, h1.2.1⟩, h2 item (by simp [GS.some])⟩
theorem rfirst0 {e : S_Estate} {items : GS Int} (hL : items.l.length ≤ 9223372036854775807) (h : r_first e items = 0) : 1 ≤ e.items.l.length ∧ e.items.l.length ≤ 12 := ⟨(rfirst_ok hL h).1.1, (rfirst_ok hL h).1.2.1⟩

def r_Check (e : S_Estate) : Int :=
  (r_first e GS.nil)

theorem T_r_Check (e : S_Estate) : (lim cfg).pure 32 [S_Estate.D e] = some (I (r_Check e)) := by
  unfold r_Check
  exact zh [.pure (I (r_first e GS.nil))] (And.intro (T_r_first e GS.nil (by first | assumption | omega | (with_reducible exact z9) | (with_reducible exact Nat.le_trans zb (by omega)) | (with_reducible exact Nat.le_trans zc (by omega)) | (with_reducible exact Nat.le_trans zd (by omega)) | (simp only [z8] at * <;> omega) | (simp only [z5, z6, z7, GS.nil_l, GS.some_l, List.length_set, List.length_append, List.length_cons, List.length_nil] at * <;> first | with_reducible assumption | omega) | (simp only [z5, z6, z7, GS.nil_l, GS.some_l, List.length_set, List.length_append, List.length_cons, List.length_nil, z8] at * <;> first | with_reducible assumption | omega) | (simp at * <;> omega))) trivial) (by kernel_rfl)

def r_Sum (e : S_Estate) : S_Span × Int :=
  bif (zR e) then
    ((⟨imax ((r_All e).lo) e.whole.lo, zV ((r_All e).hi) e.whole.hi⟩ : S_Span), 0)
  else
    ((⟨0, 0⟩ : S_Span), 80)

theorem T_r_Sum (e : S_Estate) (hL_e_items : e.items.l.length ≤ 9223372036854775807) : (lim cfg).pure 36 [S_Estate.D e] = some (.tup [S_Span.D ((r_Sum e).1), I ((r_Sum e).2)]) := by
  unfold r_Sum
  cases h1 : (zR e) with
  | true =>
    have g1 := valid_len h1
    exact zh [.pure (B (zR e)), .dec true, .pure (.agg [I ((r_All e).lo), I ((r_All e).hi)])] (And.intro (T_r_All e (by first | assumption | omega | (with_reducible exact z9) | (with_reducible exact Nat.le_trans zb (by omega)) | (with_reducible exact Nat.le_trans zc (by omega)) | (with_reducible exact Nat.le_trans zd (by omega)) | (simp only [z8] at * <;> omega) | (simp only [z5, z6, z7, GS.nil_l, GS.some_l, List.length_set, List.length_append, List.length_cons, List.length_nil] at * <;> first | with_reducible assumption | omega) | (simp only [z5, z6, z7, GS.nil_l, GS.some_l, List.length_set, List.length_append, List.length_cons, List.length_nil, z8] at * <;> first | with_reducible assumption | omega) | (simp at * <;> omega))) (And.intro h1 (And.intro (T_r_Valid e) trivial))) (by kernel_rfl)
  | false =>
    exact zh [.pure (B (zR e)), .dec false] (And.intro h1 (And.intro (T_r_Valid e) trivial)) (by kernel_rfl)

def r_Part (e : S_Estate) (item : Int) : S_Span × Int :=
  bif ((r_first e (GS.some [item])) != 0) then
    ((⟨0, 0⟩ : S_Span), (r_first e (GS.some [item])))
  else
    ((⟨imax ((GS.at e.items item).now.lo) (w64 (e.whole.lo - (w64 (((r_All e).hi) - ((GS.at e.items item).now.hi))))), zV ((GS.at e.items item).now.hi) (w64 (e.whole.hi - (w64 (((r_All e).lo) - ((GS.at e.items item).now.lo)))))⟩ : S_Span), 0)

theorem T_r_Part (e : S_Estate) (item : Int) (hLe : e.items.l.length ≤ 9223372036854775807) : (lim cfg).pure 38 [S_Estate.D e, I item] = some (.tup [S_Span.D ((r_Part e item).1), I ((r_Part e item).2)]) := by
  unfold r_Part
  cases h1 : ((r_first e (GS.some [item])) != 0) with
  | true =>
    have g1 := y0 h1
    exact zh [.pure (I (r_first e (GS.some [item]))), .dec true] (And.intro h1 (And.intro (T_r_first e (GS.some [item]) (by first | assumption | omega | (with_reducible exact z9) | (with_reducible exact Nat.le_trans zb (by omega)) | (with_reducible exact Nat.le_trans zc (by omega)) | (with_reducible exact Nat.le_trans zd (by omega)) | (simp only [z8] at * <;> omega) | (simp only [z5, z6, z7, GS.nil_l, GS.some_l, List.length_set, List.length_append, List.length_cons, List.length_nil] at * <;> first | with_reducible assumption | omega) | (simp only [z5, z6, z7, GS.nil_l, GS.some_l, List.length_set, List.length_append, List.length_cons, List.length_nil, z8] at * <;> first | with_reducible assumption | omega) | (simp at * <;> omega))) trivial)) (by kernel_rfl)
  | false =>
    have g1 := rfirst1 (zF h1)
    exact zh [.pure (I (r_first e (GS.some [item]))), .dec false, .pure (.agg [I ((r_All e).lo), I ((r_All e).hi)]), .el (.agg [I ((GS.at e.items item).now.lo), I ((GS.at e.items item).now.hi), I ((GS.at e.items item).cost), I ((GS.at e.items item).error)])] (And.intro (el_in (s := e.items) (f := S_Item.D) (k := 4) (i := item) (by first | assumption | omega | (with_reducible exact z9) | (with_reducible exact Nat.le_trans zb (by omega)) | (with_reducible exact Nat.le_trans zc (by omega)) | (with_reducible exact Nat.le_trans zd (by omega)) | (simp only [z8] at * <;> omega) | (simp only [z5, z6, z7, GS.nil_l, GS.some_l, List.length_set, List.length_append, List.length_cons, List.length_nil] at * <;> first | with_reducible assumption | omega) | (simp only [z5, z6, z7, GS.nil_l, GS.some_l, List.length_set, List.length_append, List.length_cons, List.length_nil, z8] at * <;> first | with_reducible assumption | omega) | (simp at * <;> omega)) (by first | assumption | omega | (with_reducible exact z9) | (with_reducible exact Nat.le_trans zb (by omega)) | (with_reducible exact Nat.le_trans zc (by omega)) | (with_reducible exact Nat.le_trans zd (by omega)) | (simp only [z8] at * <;> omega) | (simp only [z5, z6, z7, GS.nil_l, GS.some_l, List.length_set, List.length_append, List.length_cons, List.length_nil] at * <;> first | with_reducible assumption | omega) | (simp only [z5, z6, z7, GS.nil_l, GS.some_l, List.length_set, List.length_append, List.length_cons, List.length_nil, z8] at * <;> first | with_reducible assumption | omega) | (simp at * <;> omega))) (And.intro (T_r_All e (by first | assumption | omega | (with_reducible exact z9) | (with_reducible exact Nat.le_trans zb (by omega)) | (with_reducible exact Nat.le_trans zc (by omega)) | (with_reducible exact Nat.le_trans zd (by omega)) | (simp only [z8] at * <;> omega) | (simp only [z5, z6, z7, GS.nil_l, GS.some_l, List.length_set, List.length_append, List.length_cons, List.length_nil] at * <;> first | with_reducible assumption | omega) | (simp only [z5, z6, z7, GS.nil_l, GS.some_l, List.length_set, List.length_append, List.length_cons, List.length_nil, z8] at * <;> first | with_reducible assumption | omega) | (simp at * <;> omega))) (And.intro h1 (And.intro (T_r_first e (GS.some [item]) (by first | assumption | omega | (with_reducible exact z9) | (with_reducible exact Nat.le_trans zb (by omega)) | (with_reducible exact Nat.le_trans zc (by omega)) | (with_reducible exact Nat.le_trans zd (by omega)) | (simp only [z8] at * <;> omega) | (simp only [z5, z6, z7, GS.nil_l, GS.some_l, List.length_set, List.length_append, List.length_cons, List.length_nil] at * <;> first | with_reducible assumption | omega) | (simp only [z5, z6, z7, GS.nil_l, GS.some_l, List.length_set, List.length_append, List.length_cons, List.length_nil, z8] at * <;> first | with_reducible assumption | omega) | (simp at * <;> omega))) trivial)))) (by kernel_rfl)

noncomputable def lp40_5 : Code := subC [1, 1, 1, 0, 1, 0, 0] (bodyC Tryz.f40)

def sd75 (e : S_Estate) (i5 : Nat) (v5_0 : List S_Item) : St := ⟨43, [(5, I ((i5 + 1 : Nat) : Int)), (22, I ((i5 + 1 : Nat) : Int)), (21, I ((i5 : Nat) : Int)), (34, .lref 3 i5 4 0), (33, .lref 3 i5 4 0), (32, .agg [I (((r_Part e ((i5 : Nat) : Int)).1).lo), I (((r_Part e ((i5 : Nat) : Int)).1).hi)]), (31, I ((i5 : Nat) : Int)), (30, .lsl 3 0 e.items.l.length 4 none), (29, .lref 2 0 3 0), (7, I ((r_Part e ((i5 : Nat) : Int)).2)), (6, .lref 4 0 2 0), (28, I ((r_Part e ((i5 : Nat) : Int)).2)), (27, .agg [I (((r_Part e ((i5 : Nat) : Int)).1).lo), I (((r_Part e ((i5 : Nat) : Int)).1).hi)]), (23, .tup [.agg [I (((r_Part e ((i5 : Nat) : Int)).1).lo), I (((r_Part e ((i5 : Nat) : Int)).1).hi)], I ((r_Part e ((i5 : Nat) : Int)).2)]), (26, .tup [.agg [I (((r_Part e ((i5 : Nat) : Int)).1).lo), I (((r_Part e ((i5 : Nat) : Int)).1).hi)], I ((r_Part e ((i5 : Nat) : Int)).2)]), (25, I ((i5 : Nat) : Int)), (24, .agg [.sl e.items.nl (e.items.l.map S_Item.D) (zsl e.items.nl 4) none, I e.whole.lo, I e.whole.hi]), (20, B true), (19, I ((e.items.l.length : Nat) : Int)), (18, .lsl 3 0 e.items.l.length 4 none), (17, .lref 2 0 3 0), (16, I ((i5 : Nat) : Int)), (1, .lref 0 0 3 0), (2, .lref 1 0 3 0), (4, .lref 2 0 3 0), (5, I ((i5 : Nat) : Int))], [(0, ⟨[.agg [.sl e.items.nl (e.items.l.map S_Item.D) (zsl e.items.nl 4) none, I e.whole.lo, I e.whole.hi]], 3, false⟩), (1, ⟨[.agg [.sl true [] 0 none, I 0, I 0]], 3, false⟩), (2, ⟨[.agg [.lsl 3 0 e.items.l.length 4 none, I e.whole.lo, I e.whole.hi]], 3, false⟩), (3, ⟨(v5_0.set i5 (⟨((r_Part e ((i5 : Nat) : Int)).1), (v5_0.getD i5 default).cost, (v5_0.getD i5 default).error⟩ : S_Item)).map S_Item.D, 4, false⟩), (4, ⟨[.agg [I (((r_Part e ((i5 : Nat) : Int)).1).lo), I (((r_Part e ((i5 : Nat) : Int)).1).hi)]], 2, false⟩)], 5, 0⟩

inductive LR_r_Closed_5 where
  | x0 (v5_0 : List S_Item)
instance : Inhabited LR_r_Closed_5 := ⟨.x0 default⟩
def r_Closed_5 (e : S_Estate) : List S_Item → Nat → (List S_Item) → LR_r_Closed_5
  | [], i5, v5_0 => .x0 v5_0
  | x5 :: rest5, i5, v5_0 =>
    r_Closed_5 e rest5 (i5 + 1) (v5_0.set i5 (⟨((r_Part e ((i5 : Nat) : Int)).1), (v5_0.getD i5 default).cost, (v5_0.getD i5 default).error⟩ : S_Item))
def lr_r_Closed_5 (e : S_Estate) : LR_r_Closed_5 → Exit × St
  | .x0 v5_0 => ((.exit 0), ⟨43, [(20, B false), (19, I ((e.items.l.length : Nat) : Int)), (18, .lsl 3 0 e.items.l.length 4 none), (17, .lref 2 0 3 0), (16, I ((e.items.l.length : Nat) : Int)), (1, .lref 0 0 3 0), (2, .lref 1 0 3 0), (4, .lref 2 0 3 0), (5, I ((e.items.l.length : Nat) : Int))], [(0, ⟨[.agg [.sl e.items.nl (e.items.l.map S_Item.D) (zsl e.items.nl 4) none, I e.whole.lo, I e.whole.hi]], 3, false⟩), (1, ⟨[.agg [.sl true [] 0 none, I 0, I 0]], 3, false⟩), (2, ⟨[.agg [.lsl 3 0 e.items.l.length 4 none, I e.whole.lo, I e.whole.hi]], 3, false⟩), (3, ⟨v5_0.map S_Item.D, 4, false⟩)], 4, 0⟩)
def iv_r_Closed_5 (e : S_Estate) : LR_r_Closed_5 → Prop
  | .x0 v5_0 => (v5_0.length = e.items.l.length)
theorem lp_r_Closed_5 (e : S_Estate) : ∀ (rest5 : List S_Item) (i5 : Nat) (v5_0 : List S_Item) (hd5 : e.items.l.drop i5 = rest5) (hi5 : i5 ≤ e.items.l.length) (hl5_v5_0 : v5_0.length = e.items.l.length) (hL5 : e.items.l.length ≤ 9223372036854775807), (lim cfg).loop 40 lp40_5 ⟨43, [(1, .lref 0 0 3 0), (2, .lref 1 0 3 0), (4, .lref 2 0 3 0), (5, I ((i5 : Nat) : Int))], [(0, ⟨[.agg [.sl e.items.nl (e.items.l.map S_Item.D) (zsl e.items.nl 4) none, I e.whole.lo, I e.whole.hi]], 3, false⟩), (1, ⟨[.agg [.sl true [] 0 none, I 0, I 0]], 3, false⟩), (2, ⟨[.agg [.lsl 3 0 e.items.l.length 4 none, I e.whole.lo, I e.whole.hi]], 3, false⟩), (3, ⟨v5_0.map S_Item.D, 4, false⟩)], 4, 0⟩ = some (lr_r_Closed_5 e (r_Closed_5 e rest5 i5 v5_0)) := by
  intro rest5
  induction rest5 with
  | nil =>
    intro i5 v5_0 hd5 hi5 hl5_v5_0 hL5
    unfold r_Closed_5
    obtain rfl : i5 = e.items.l.length := nil_eq hd5 hi5
    exact zH [.dec false] (And.intro (lt_no hd5) trivial) (by kernel_rfl)
  | cons x5 rest5 ih =>
    intro i5 v5_0 hd5 hi5 hl5_v5_0 hL5
    have hlt5 := zv hd5
    unfold r_Closed_5
    exact po_turn' (ks := [1, 2, 4, 5]) (st' := (sd75 e i5 v5_0)) [.dec true, .pure (.tup [.agg [I (((r_Part e ((i5 : Nat) : Int)).1).lo), I (((r_Part e ((i5 : Nat) : Int)).1).hi)], I ((r_Part e ((i5 : Nat) : Int)).2)]), .op (some 33) ⟨.lref 3 i5 4 0, [], [], 5⟩, .stS 3 ⟨.tup [], [(3, some ⟨(v5_0.set i5 (⟨((r_Part e ((i5 : Nat) : Int)).1), (v5_0.getD i5 default).cost, (v5_0.getD i5 default).error⟩ : S_Item)).map S_Item.D, 4, false⟩)], [3], 5⟩, .rw 22 (I ((i5 + 1 : Nat) : Int))] (And.intro (inc_rw (i := i5) (by have := zv hd5; omega)) (And.intro (store_row (C := cfg) (objs := [(0, ⟨[.agg [.sl e.items.nl (e.items.l.map S_Item.D) (zsl e.items.nl 4) none, I e.whole.lo, I e.whole.hi]], 3, false⟩), (1, ⟨[.agg [.sl true [] 0 none, I 0, I 0]], 3, false⟩), (2, ⟨[.agg [.lsl 3 0 e.items.l.length 4 none, I e.whole.lo, I e.whole.hi]], 3, false⟩), (3, ⟨v5_0.map S_Item.D, 4, false⟩), (4, ⟨[.agg [I (((r_Part e ((i5 : Nat) : Int)).1).lo), I (((r_Part e ((i5 : Nat) : Int)).1).hi)]], 2, false⟩)]) (nxt := 5) (t := 24) (ty := ty24) (o := 3) (n := i5) (sz := 4) (sub := 0) (els := v5_0.map S_Item.D) (els' := (v5_0.set i5 (⟨((r_Part e ((i5 : Nat) : Int)).1), (v5_0.getD i5 default).cost, (v5_0.getD i5 default).error⟩ : S_Item)).map S_Item.D) (e := S_Item.D (v5_0.getD i5 default)) (e' := S_Item.D (⟨((r_Part e ((i5 : Nat) : Int)).1), (v5_0.getD i5 default).cost, (v5_0.getD i5 default).error⟩ : S_Item)) (v := .agg [I (((r_Part e ((i5 : Nat) : Int)).1).lo), I (((r_Part e ((i5 : Nat) : Int)).1).hi)]) (by kernel_rfl) (by kernel_rfl) (row_get (f := S_Item.D) (by first | assumption | omega | (with_reducible exact z9) | (with_reducible exact Nat.le_trans zb (by omega)) | (with_reducible exact Nat.le_trans zc (by omega)) | (with_reducible exact Nat.le_trans zd (by omega)) | (simp only [z8] at * <;> omega) | (simp only [z5, z6, z7, GS.nil_l, GS.some_l, List.length_set, List.length_append, List.length_cons, List.length_nil] at * <;> first | with_reducible assumption | omega) | (simp only [z5, z6, z7, GS.nil_l, GS.some_l, List.length_set, List.length_append, List.length_cons, List.length_nil, z8] at * <;> first | with_reducible assumption | omega) | (simp at * <;> omega))) rfl (by kernel_rfl) rfl (by kernel_rfl) (row_set (f := S_Item.D))) (And.intro (idx_row (C := cfg) (nxt := 5) (t := 22) (ty := ty22) (te := ty69) (e := 69) (o := 3) (len := e.items.l.length) (sz := 4) (cap := none) (i := ((i5 : Nat) : Int)) (by kernel_rfl) rfl (by kernel_rfl) rfl (by first | assumption | omega | (with_reducible exact z9) | (with_reducible exact Nat.le_trans zb (by omega)) | (with_reducible exact Nat.le_trans zc (by omega)) | (with_reducible exact Nat.le_trans zd (by omega)) | (simp only [z8] at * <;> omega) | (simp only [z5, z6, z7, GS.nil_l, GS.some_l, List.length_set, List.length_append, List.length_cons, List.length_nil] at * <;> first | with_reducible assumption | omega) | (simp only [z5, z6, z7, GS.nil_l, GS.some_l, List.length_set, List.length_append, List.length_cons, List.length_nil, z8] at * <;> first | with_reducible assumption | omega) | (simp at * <;> omega)) (by first | assumption | omega | (with_reducible exact z9) | (with_reducible exact Nat.le_trans zb (by omega)) | (with_reducible exact Nat.le_trans zc (by omega)) | (with_reducible exact Nat.le_trans zd (by omega)) | (simp only [z8] at * <;> omega) | (simp only [z5, z6, z7, GS.nil_l, GS.some_l, List.length_set, List.length_append, List.length_cons, List.length_nil] at * <;> first | with_reducible assumption | omega) | (simp only [z5, z6, z7, GS.nil_l, GS.some_l, List.length_set, List.length_append, List.length_cons, List.length_nil, z8] at * <;> first | with_reducible assumption | omega) | (simp at * <;> omega))) (And.intro (T_r_Part e ((i5 : Nat) : Int) (by first | assumption | omega | (with_reducible exact z9) | (with_reducible exact Nat.le_trans zb (by omega)) | (with_reducible exact Nat.le_trans zc (by omega)) | (with_reducible exact Nat.le_trans zd (by omega)) | (simp only [z8] at * <;> omega) | (simp only [z5, z6, z7, GS.nil_l, GS.some_l, List.length_set, List.length_append, List.length_cons, List.length_nil] at * <;> first | with_reducible assumption | omega) | (simp only [z5, z6, z7, GS.nil_l, GS.some_l, List.length_set, List.length_append, List.length_cons, List.length_nil, z8] at * <;> first | with_reducible assumption | omega) | (simp at * <;> omega))) (And.intro (lt_at hd5) trivial))))) (by kernel_rfl) (by (simp only [sd75, go_sem, Nat.reduceAdd, Nat.reduceEqDiff, Nat.reduceLT, Nat.reduceLeDiff, bI2, zN.idsL, zN.renL, zN.snapAll, zi.idsL, zi.renL, zi.snapAll]) <;> rfl) (ih (i5 + 1) (v5_0.set i5 (⟨((r_Part e ((i5 : Nat) : Int)).1), (v5_0.getD i5 default).cost, (v5_0.getD i5 default).error⟩ : S_Item)) (zA hd5) (zv hd5) (by first | assumption | omega | (with_reducible exact z9) | (with_reducible exact Nat.le_trans zb (by omega)) | (with_reducible exact Nat.le_trans zc (by omega)) | (with_reducible exact Nat.le_trans zd (by omega)) | (simp only [z8] at * <;> omega) | (simp only [z5, z6, z7, GS.nil_l, GS.some_l, List.length_set, List.length_append, List.length_cons, List.length_nil] at * <;> first | with_reducible assumption | omega) | (simp only [z5, z6, z7, GS.nil_l, GS.some_l, List.length_set, List.length_append, List.length_cons, List.length_nil, z8] at * <;> first | with_reducible assumption | omega) | (simp at * <;> omega)) (by first | assumption | omega | (with_reducible exact z9) | (with_reducible exact Nat.le_trans zb (by omega)) | (with_reducible exact Nat.le_trans zc (by omega)) | (with_reducible exact Nat.le_trans zd (by omega)) | (simp only [z8] at * <;> omega) | (simp only [z5, z6, z7, GS.nil_l, GS.some_l, List.length_set, List.length_append, List.length_cons, List.length_nil] at * <;> first | with_reducible assumption | omega) | (simp only [z5, z6, z7, GS.nil_l, GS.some_l, List.length_set, List.length_append, List.length_cons, List.length_nil, z8] at * <;> first | with_reducible assumption | omega) | (simp at * <;> omega))) (by kernel_rfl)
theorem ivt_r_Closed_5 (e : S_Estate) : ∀ (rest5 : List S_Item) (i5 : Nat) (v5_0 : List S_Item) (hd5 : e.items.l.drop i5 = rest5) (hi5 : i5 ≤ e.items.l.length) (hl5_v5_0 : v5_0.length = e.items.l.length) (hL5 : e.items.l.length ≤ 9223372036854775807), iv_r_Closed_5 e (r_Closed_5 e rest5 i5 v5_0) := by
  intro rest5
  induction rest5 with
  | nil =>
    intro i5 v5_0 hd5 hi5 hl5_v5_0 hL5
    unfold r_Closed_5
    obtain rfl : i5 = e.items.l.length := nil_eq hd5 hi5
    exact hl5_v5_0
  | cons x5 rest5 ih =>
    intro i5 v5_0 hd5 hi5 hl5_v5_0 hL5
    have hlt5 := zv hd5
    unfold r_Closed_5
    exact ih (i5 + 1) (v5_0.set i5 (⟨((r_Part e ((i5 : Nat) : Int)).1), (v5_0.getD i5 default).cost, (v5_0.getD i5 default).error⟩ : S_Item)) (zA hd5) (zv hd5) (by first | assumption | omega | (with_reducible exact z9) | (with_reducible exact Nat.le_trans zb (by omega)) | (with_reducible exact Nat.le_trans zc (by omega)) | (with_reducible exact Nat.le_trans zd (by omega)) | (simp only [z8] at * <;> omega) | (simp only [z5, z6, z7, GS.nil_l, GS.some_l, List.length_set, List.length_append, List.length_cons, List.length_nil] at * <;> first | with_reducible assumption | omega) | (simp only [z5, z6, z7, GS.nil_l, GS.some_l, List.length_set, List.length_append, List.length_cons, List.length_nil, z8] at * <;> first | with_reducible assumption | omega) | (simp at * <;> omega)) (by first | assumption | omega | (with_reducible exact z9) | (with_reducible exact Nat.le_trans zb (by omega)) | (with_reducible exact Nat.le_trans zc (by omega)) | (with_reducible exact Nat.le_trans zd (by omega)) | (simp only [z8] at * <;> omega) | (simp only [z5, z6, z7, GS.nil_l, GS.some_l, List.length_set, List.length_append, List.length_cons, List.length_nil] at * <;> first | with_reducible assumption | omega) | (simp only [z5, z6, z7, GS.nil_l, GS.some_l, List.length_set, List.length_append, List.length_cons, List.length_nil, z8] at * <;> first | with_reducible assumption | omega) | (simp at * <;> omega))

def r_Closed (e : S_Estate) : S_Estate × Int :=
  bif (zR e) then
    match r_Closed_5 e e.items.l 0 e.items.l with
    | .x0 v5_0 =>
      ((⟨GS.some v5_0, ((r_Sum e).1)⟩ : S_Estate), 0)
  else
    ((⟨GS.nil, (⟨0, 0⟩ : S_Span)⟩ : S_Estate), 80)

def sd77 (e : S_Estate) : St := ⟨43, [(1, .lref 0 0 3 0), (2, .lref 1 0 3 0), (4, .lref 2 0 3 0), (5, I 0)], [(0, ⟨[.agg [.sl e.items.nl (e.items.l.map S_Item.D) (zsl e.items.nl 4) none, I e.whole.lo, I e.whole.hi]], 3, false⟩), (1, ⟨[.agg [.sl true [] 0 none, I 0, I 0]], 3, false⟩), (2, ⟨[.agg [.lsl 3 0 e.items.l.length 4 none, I e.whole.lo, I e.whole.hi]], 3, false⟩), (3, ⟨e.items.l.map S_Item.D, 4, false⟩)], 4, 0⟩

def sd78 (e : S_Estate) (v5_0 : List S_Item) : St := ⟨43, [(20, B false), (19, I ((e.items.l.length : Nat) : Int)), (18, .lsl 3 0 e.items.l.length 4 none), (17, .lref 2 0 3 0), (16, I ((e.items.l.length : Nat) : Int)), (1, .lref 0 0 3 0), (2, .lref 1 0 3 0), (4, .lref 2 0 3 0), (5, I ((e.items.l.length : Nat) : Int))], [(0, ⟨[.agg [.sl e.items.nl (e.items.l.map S_Item.D) (zsl e.items.nl 4) none, I e.whole.lo, I e.whole.hi]], 3, false⟩), (1, ⟨[.agg [.sl true [] 0 none, I 0, I 0]], 3, false⟩), (2, ⟨[.agg [.lsl 3 0 e.items.l.length 4 none, I e.whole.lo, I e.whole.hi]], 3, false⟩), (3, ⟨v5_0.map S_Item.D, 4, false⟩)], 4, 0⟩

def sd76 (e : S_Estate) : St := ⟨43, [(5, I 0), (4, .lref 6 0 3 0), (15, .agg [.lsl 5 0 e.items.l.length 4 none, I e.whole.lo, I e.whole.hi]), (14, .agg [.sl e.items.nl (e.items.l.map S_Item.D) (zsl e.items.nl 4) none, I e.whole.lo, I e.whole.hi]), (12, B false), (11, B true), (10, .agg [.sl e.items.nl (e.items.l.map S_Item.D) (zsl e.items.nl 4) none, I e.whole.lo, I e.whole.hi]), (3, I 0), (2, .lref 1 0 3 0), (1, .lref 0 0 3 0), (0, .agg [.sl e.items.nl (e.items.l.map S_Item.D) (zsl e.items.nl 4) none, I e.whole.lo, I e.whole.hi])], [(0, ⟨[.agg [.sl e.items.nl (e.items.l.map S_Item.D) (zsl e.items.nl 4) none, I e.whole.lo, I e.whole.hi]], 3, false⟩), (1, ⟨[.agg [.sl true [] 0 none, I 0, I 0]], 3, false⟩), (2, ⟨[.agg [.sl e.items.nl (e.items.l.map S_Item.D) (zsl e.items.nl 4) none, I e.whole.lo, I e.whole.hi]], 3, false⟩), (3, ⟨[.agg [.lsl 5 0 e.items.l.length 4 none, I e.whole.lo, I e.whole.hi]], 3, false⟩), (4, ⟨[], 4, false⟩), (5, ⟨e.items.l.map S_Item.D, 4, false⟩), (6, ⟨[.agg [.lsl 5 0 e.items.l.length 4 none, I e.whole.lo, I e.whole.hi]], 3, false⟩)], 7, 0⟩

theorem clone86_2 (e : S_Estate) (h1 : 1 ≤ e.items.l.length) (h2 : e.items.l.length ≤ 12) : (lim cfg).inl 86 [S_Estate.D e] [] 2 = some (.agg [.lsl 5 0 e.items.l.length 4 none, I e.whole.lo, I e.whole.hi], [(2, ⟨[.agg [.sl e.items.nl (e.items.l.map S_Item.D) (zsl e.items.nl 4) none, I e.whole.lo, I e.whole.hi]], 3, false⟩), (3, ⟨[.agg [.lsl 5 0 e.items.l.length 4 none, I e.whole.lo, I e.whole.hi]], 3, false⟩), (4, ⟨[], 4, false⟩), (5, ⟨e.items.l.map S_Item.D, 4, false⟩)], 6) := by
  exact po_inl [.op (some 6) ⟨.lsl 5 0 e.items.l.length 4 none, [(5, some ⟨(e.items.l).map S_Item.D, 4, false⟩)], [4], 6⟩] (And.intro (app_deep (te := ty69) (gO := zE [(2, ⟨[.agg [.sl e.items.nl (e.items.l.map S_Item.D) (zsl e.items.nl 4) none, I e.whole.lo, I e.whole.hi]], 3, false⟩), (3, ⟨[.agg [.sl true [] 0 none, I 0, I 0]], 3, false⟩), (4, ⟨[], 4, false⟩)]) (nxt := 5) (o := 4) (fz := false) zi e.items (ne_of_len (by first | assumption | omega | (with_reducible exact z9) | (with_reducible exact Nat.le_trans zb (by omega)) | (with_reducible exact Nat.le_trans zc (by omega)) | (with_reducible exact Nat.le_trans zd (by omega)) | (simp only [z8] at * <;> omega) | (simp only [z5, z6, z7, GS.nil_l, GS.some_l, List.length_set, List.length_append, List.length_cons, List.length_nil] at * <;> first | with_reducible assumption | omega) | (simp only [z5, z6, z7, GS.nil_l, GS.some_l, List.length_set, List.length_append, List.length_cons, List.length_nil, z8] at * <;> first | with_reducible assumption | omega) | (simp at * <;> omega))) (nonnil (ne_of_len (by first | assumption | omega | (with_reducible exact z9) | (with_reducible exact Nat.le_trans zb (by omega)) | (with_reducible exact Nat.le_trans zc (by omega)) | (with_reducible exact Nat.le_trans zd (by omega)) | (simp only [z8] at * <;> omega) | (simp only [z5, z6, z7, GS.nil_l, GS.some_l, List.length_set, List.length_append, List.length_cons, List.length_nil] at * <;> first | with_reducible assumption | omega) | (simp only [z5, z6, z7, GS.nil_l, GS.some_l, List.length_set, List.length_append, List.length_cons, List.length_nil, z8] at * <;> first | with_reducible assumption | omega) | (simp at * <;> omega)))) (by kernel_rfl) rfl (by kernel_rfl) (by decide) ⟨by simp only [ty69, big] <;> (first | assumption | omega | (with_reducible exact z9) | (with_reducible exact Nat.le_trans zb (by omega)) | (with_reducible exact Nat.le_trans zc (by omega)) | (with_reducible exact Nat.le_trans zd (by omega)) | (simp only [z8] at * <;> omega) | (simp only [z5, z6, z7, GS.nil_l, GS.some_l, List.length_set, List.length_append, List.length_cons, List.length_nil] at * <;> first | with_reducible assumption | omega) | (simp only [z5, z6, z7, GS.nil_l, GS.some_l, List.length_set, List.length_append, List.length_cons, List.length_nil, z8] at * <;> first | with_reducible assumption | omega) | (simp at * <;> omega)), by simp only [big] <;> (first | assumption | omega | (with_reducible exact z9) | (with_reducible exact Nat.le_trans zb (by omega)) | (with_reducible exact Nat.le_trans zc (by omega)) | (with_reducible exact Nat.le_trans zd (by omega)) | (simp only [z8] at * <;> omega) | (simp only [z5, z6, z7, GS.nil_l, GS.some_l, List.length_set, List.length_append, List.length_cons, List.length_nil] at * <;> first | with_reducible assumption | omega) | (simp only [z5, z6, z7, GS.nil_l, GS.some_l, List.length_set, List.length_append, List.length_cons, List.length_nil, z8] at * <;> first | with_reducible assumption | omega) | (simp at * <;> omega))⟩) trivial) (by kernel_rfl)

theorem T_r_Closed (e : S_Estate) (hL_e_items : e.items.l.length ≤ 9223372036854775807) : (lim cfg).pure 40 [S_Estate.D e] = some (.tup [S_Estate.D ((r_Closed e).1), I ((r_Closed e).2)]) := by
  unfold r_Closed
  cases h1 : (zR e) with
  | true =>
    have g1 := valid_len h1
    cases h2 : r_Closed_5 e e.items.l 0 e.items.l with
    | x0 v5_0 =>
      try dsimp only
      have hv_h2 := ivt_r_Closed_5 e e.items.l 0 e.items.l (List.drop_zero) (Nat.zero_le _) (by first | assumption | omega | (with_reducible exact z9) | (with_reducible exact Nat.le_trans zb (by omega)) | (with_reducible exact Nat.le_trans zc (by omega)) | (with_reducible exact Nat.le_trans zd (by omega)) | (simp only [z8] at * <;> omega) | (simp only [z5, z6, z7, GS.nil_l, GS.some_l, List.length_set, List.length_append, List.length_cons, List.length_nil] at * <;> first | with_reducible assumption | omega) | (simp only [z5, z6, z7, GS.nil_l, GS.some_l, List.length_set, List.length_append, List.length_cons, List.length_nil, z8] at * <;> first | with_reducible assumption | omega) | (simp at * <;> omega)) (by first | assumption | omega | (with_reducible exact z9) | (with_reducible exact Nat.le_trans zb (by omega)) | (with_reducible exact Nat.le_trans zc (by omega)) | (with_reducible exact Nat.le_trans zd (by omega)) | (simp only [z8] at * <;> omega) | (simp only [z5, z6, z7, GS.nil_l, GS.some_l, List.length_set, List.length_append, List.length_cons, List.length_nil] at * <;> first | with_reducible assumption | omega) | (simp only [z5, z6, z7, GS.nil_l, GS.some_l, List.length_set, List.length_append, List.length_cons, List.length_nil, z8] at * <;> first | with_reducible assumption | omega) | (simp at * <;> omega))
      rw [h2] at hv_h2
      have hv_h2_0 := hv_h2
      try dsimp only [iv_r_Closed_5] at hv_h2_0
      exact po_pureS [.pure (B (zR e)), .dec true, .inl (.agg [.lsl 5 0 e.items.l.length 4 none, I e.whole.lo, I e.whole.hi]) [(2, ⟨[.agg [.sl e.items.nl (e.items.l.map S_Item.D) (zsl e.items.nl 4) none, I e.whole.lo, I e.whole.hi]], 3, false⟩), (3, ⟨[.agg [.lsl 5 0 e.items.l.length 4 none, I e.whole.lo, I e.whole.hi]], 3, false⟩), (4, ⟨[], 4, false⟩), (5, ⟨e.items.l.map S_Item.D, 4, false⟩)] 6, .gloop (sd77 e) (.exit 0) (sd78 e v5_0), .pure (.tup [.agg [I (((r_Sum e).1).lo), I (((r_Sum e).1).hi)], I ((r_Sum e).2)])] [(3, .sl false (v5_0.map S_Item.D) 4 none, [3])] (And.intro (snap_row (gO := zE [(0, ⟨[.agg [.sl e.items.nl (e.items.l.map S_Item.D) (zsl e.items.nl 4) none, I e.whole.lo, I e.whole.hi]], 3, false⟩), (1, ⟨[.agg [.lsl 3 0 e.items.l.length 4 none, I (((r_Sum e).1).lo), I (((r_Sum e).1).hi)]], 3, false⟩), (2, ⟨[.agg [.lsl 3 0 e.items.l.length 4 none, I (((r_Sum e).1).lo), I (((r_Sum e).1).hi)]], 3, false⟩), (3, ⟨v5_0.map S_Item.D, 4, false⟩), (4, ⟨[.agg [I (((r_Sum e).1).lo), I (((r_Sum e).1).hi)]], 2, false⟩)]) (o := 3) (len := e.items.l.length) (cap := none) (fz := false) zi v5_0 (by kernel_rfl) (by first | assumption | omega | (with_reducible exact z9) | (with_reducible exact Nat.le_trans zb (by omega)) | (with_reducible exact Nat.le_trans zc (by omega)) | (with_reducible exact Nat.le_trans zd (by omega)) | (simp only [z8] at * <;> omega) | (simp only [z5, z6, z7, GS.nil_l, GS.some_l, List.length_set, List.length_append, List.length_cons, List.length_nil] at * <;> first | with_reducible assumption | omega) | (simp only [z5, z6, z7, GS.nil_l, GS.some_l, List.length_set, List.length_append, List.length_cons, List.length_nil, z8] at * <;> first | with_reducible assumption | omega) | (simp at * <;> omega))) (And.intro (T_r_Sum e (by first | assumption | omega | (with_reducible exact z9) | (with_reducible exact Nat.le_trans zb (by omega)) | (with_reducible exact Nat.le_trans zc (by omega)) | (with_reducible exact Nat.le_trans zd (by omega)) | (simp only [z8] at * <;> omega) | (simp only [z5, z6, z7, GS.nil_l, GS.some_l, List.length_set, List.length_append, List.length_cons, List.length_nil] at * <;> first | with_reducible assumption | omega) | (simp only [z5, z6, z7, GS.nil_l, GS.some_l, List.length_set, List.length_append, List.length_cons, List.length_nil, z8] at * <;> first | with_reducible assumption | omega) | (simp at * <;> omega))) (And.intro (po_lr (q := lr_r_Closed_5 e) (lp_r_Closed_5 e e.items.l 0 e.items.l (List.drop_zero) (Nat.zero_le _) (by first | assumption | omega | (with_reducible exact z9) | (with_reducible exact Nat.le_trans zb (by omega)) | (with_reducible exact Nat.le_trans zc (by omega)) | (with_reducible exact Nat.le_trans zd (by omega)) | (simp only [z8] at * <;> omega) | (simp only [z5, z6, z7, GS.nil_l, GS.some_l, List.length_set, List.length_append, List.length_cons, List.length_nil] at * <;> first | with_reducible assumption | omega) | (simp only [z5, z6, z7, GS.nil_l, GS.some_l, List.length_set, List.length_append, List.length_cons, List.length_nil, z8] at * <;> first | with_reducible assumption | omega) | (simp at * <;> omega)) (by first | assumption | omega | (with_reducible exact z9) | (with_reducible exact Nat.le_trans zb (by omega)) | (with_reducible exact Nat.le_trans zc (by omega)) | (with_reducible exact Nat.le_trans zd (by omega)) | (simp only [z8] at * <;> omega) | (simp only [z5, z6, z7, GS.nil_l, GS.some_l, List.length_set, List.length_append, List.length_cons, List.length_nil] at * <;> first | with_reducible assumption | omega) | (simp only [z5, z6, z7, GS.nil_l, GS.some_l, List.length_set, List.length_append, List.length_cons, List.length_nil, z8] at * <;> first | with_reducible assumption | omega) | (simp at * <;> omega))) h2) (And.intro (gc_of (C := cfg) (f := 40) (a := lp40_5) (ks := [1, 2, 4, 5]) (st := (sd76 e)) (st1 := (sd77 e)) (by kernel_rfl) (by (simp only [sd76, sd77, go_sem, Nat.reduceAdd, Nat.reduceEqDiff, Nat.reduceLT, Nat.reduceLeDiff, bI2, zN.idsL, zN.renL, zN.snapAll, zi.idsL, zi.renL, zi.snapAll]) <;> rfl)) (And.intro (clone86_2 e (by first | assumption | omega | (with_reducible exact z9) | (with_reducible exact Nat.le_trans zb (by omega)) | (with_reducible exact Nat.le_trans zc (by omega)) | (with_reducible exact Nat.le_trans zd (by omega)) | (simp only [z8] at * <;> omega) | (simp only [z5, z6, z7, GS.nil_l, GS.some_l, List.length_set, List.length_append, List.length_cons, List.length_nil] at * <;> first | with_reducible assumption | omega) | (simp only [z5, z6, z7, GS.nil_l, GS.some_l, List.length_set, List.length_append, List.length_cons, List.length_nil, z8] at * <;> first | with_reducible assumption | omega) | (simp at * <;> omega)) (by first | assumption | omega | (with_reducible exact z9) | (with_reducible exact Nat.le_trans zb (by omega)) | (with_reducible exact Nat.le_trans zc (by omega)) | (with_reducible exact Nat.le_trans zd (by omega)) | (simp only [z8] at * <;> omega) | (simp only [z5, z6, z7, GS.nil_l, GS.some_l, List.length_set, List.length_append, List.length_cons, List.length_nil] at * <;> first | with_reducible assumption | omega) | (simp only [z5, z6, z7, GS.nil_l, GS.some_l, List.length_set, List.length_append, List.length_cons, List.length_nil, z8] at * <;> first | with_reducible assumption | omega) | (simp at * <;> omega))) (And.intro h1 (And.intro (T_r_Valid e) trivial))))))) (by kernel_rfl)
  | false =>
    exact zh [.pure (B (zR e)), .dec false] (And.intro h1 (And.intro (T_r_Valid e) trivial)) (by kernel_rfl)

noncomputable def lp42_7 : Code := subC [1, 1, 1, 1, 0, 1, 0, 0] (bodyC Tryz.f42)

inductive LR_r_Measured_7 where
  | x0
  | x1 (i7 : Nat) (x7 : Int)
  | x2 (i7 : Nat) (x7 : Int)
instance : Inhabited LR_r_Measured_7 := ⟨.x0⟩
def r_Measured_7 : List Int → Nat → LR_r_Measured_7
  | [], i7 => .x0
  | x7 :: rest7, i7 =>
    bif decide (x7 < (-1048576)) then
      .x1 i7 x7
    else
      bif decide (x7 > 1074790400) then
        .x2 i7 x7
      else
        r_Measured_7 rest7 (i7 + 1)
def lr_r_Measured_7 (e : S_Estate) (items : GS Int) (shown : GS Int) : LR_r_Measured_7 → Exit × St
  | .x0 => ((.exit 0), ⟨97, [(29, B false), (28, I ((shown.l.length : Nat) : Int)), (27, .sl shown.nl (shown.l.map I) (zsl shown.nl 1) none), (26, I ((shown.l.length : Nat) : Int)), (1, .sl items.nl (items.l.map I) (zsl items.nl 1) none), (2, .sl shown.nl (shown.l.map I) (zsl shown.nl 1) none), (3, .lref 0 0 3 0), (6, .lref 1 0 3 0), (9, I ((shown.l.length : Nat) : Int))], [(0, ⟨[.agg [.sl e.items.nl (e.items.l.map S_Item.D) (zsl e.items.nl 4) none, I e.whole.lo, I e.whole.hi]], 3, false⟩), (1, ⟨[.agg [.sl true [] 0 none, I 0, I 0]], 3, false⟩)], 2, 0⟩)
  | .x1 i7 x7 => (.ret, ⟨97, [(7, I 1), (44, .agg [.sl true [] 0 none, I 0, I 0]), (43, B true), (42, .tup []), (41, .tup []), (40, .tup []), (39, .tup []), (38, .tup []), (37, B true), (36, B true), (35, I x7), (34, .ptr (I x7)), (33, I ((i7 : Nat) : Int)), (32, .sl shown.nl (shown.l.map I) (zsl shown.nl 1) none), (29, B true), (28, I ((shown.l.length : Nat) : Int)), (27, .sl shown.nl (shown.l.map I) (zsl shown.nl 1) none), (26, I ((i7 : Nat) : Int)), (1, .sl items.nl (items.l.map I) (zsl items.nl 1) none), (2, .sl shown.nl (shown.l.map I) (zsl shown.nl 1) none), (3, .lref 0 0 3 0), (6, .lref 1 0 3 0), (9, I ((i7 : Nat) : Int))], [(0, ⟨[.agg [.sl e.items.nl (e.items.l.map S_Item.D) (zsl e.items.nl 4) none, I e.whole.lo, I e.whole.hi]], 3, false⟩), (1, ⟨[.agg [.sl true [] 0 none, I 0, I 0]], 3, false⟩)], 2, 0⟩)
  | .x2 i7 x7 => (.ret, ⟨97, [(7, I 1), (44, .agg [.sl true [] 0 none, I 0, I 0]), (43, B true), (42, B true), (41, I x7), (40, .ptr (I x7)), (39, I ((i7 : Nat) : Int)), (38, .sl shown.nl (shown.l.map I) (zsl shown.nl 1) none), (37, B false), (36, B false), (35, I x7), (34, .ptr (I x7)), (33, I ((i7 : Nat) : Int)), (32, .sl shown.nl (shown.l.map I) (zsl shown.nl 1) none), (29, B true), (28, I ((shown.l.length : Nat) : Int)), (27, .sl shown.nl (shown.l.map I) (zsl shown.nl 1) none), (26, I ((i7 : Nat) : Int)), (1, .sl items.nl (items.l.map I) (zsl items.nl 1) none), (2, .sl shown.nl (shown.l.map I) (zsl shown.nl 1) none), (3, .lref 0 0 3 0), (6, .lref 1 0 3 0), (9, I ((i7 : Nat) : Int))], [(0, ⟨[.agg [.sl e.items.nl (e.items.l.map S_Item.D) (zsl e.items.nl 4) none, I e.whole.lo, I e.whole.hi]], 3, false⟩), (1, ⟨[.agg [.sl true [] 0 none, I 0, I 0]], 3, false⟩)], 2, 0⟩)
theorem lp_r_Measured_7 (e : S_Estate) (items : GS Int) (shown : GS Int) : ∀ (rest7 : List Int) (i7 : Nat) (hd7 : shown.l.drop i7 = rest7) (hi7 : i7 ≤ shown.l.length) (hls : shown.l.length = items.l.length) (hle : 1 ≤ e.items.l.length ∧ e.items.l.length ≤ 12) (hall : ∀ i ∈ items.l, 0 ≤ i ∧ i < ((e.items.l.length : Nat) : Int)) (hL7 : shown.l.length ≤ 9223372036854775807), (lim cfg).loop 42 lp42_7 ⟨97, [(1, .sl items.nl (items.l.map I) (zsl items.nl 1) none), (2, .sl shown.nl (shown.l.map I) (zsl shown.nl 1) none), (3, .lref 0 0 3 0), (6, .lref 1 0 3 0), (9, I ((i7 : Nat) : Int))], [(0, ⟨[.agg [.sl e.items.nl (e.items.l.map S_Item.D) (zsl e.items.nl 4) none, I e.whole.lo, I e.whole.hi]], 3, false⟩), (1, ⟨[.agg [.sl true [] 0 none, I 0, I 0]], 3, false⟩)], 2, 0⟩ = some (lr_r_Measured_7 e items shown (r_Measured_7 rest7 i7)) := by
  intro rest7
  induction rest7 with
  | nil =>
    intro i7 hd7 hi7 hls hle hall hL7
    unfold r_Measured_7
    obtain rfl : i7 = shown.l.length := nil_eq hd7 hi7
    exact zH [.rw 28 (I ((shown.l.length : Nat) : Int)), .dec false] (And.intro (lt_no hd7) (And.intro (zn I shown) trivial)) (by kernel_rfl)
  | cons x7 rest7 ih =>
    intro i7 hd7 hi7 hls hle hall hL7
    have hlt7 := zv hd7
    unfold r_Measured_7
    have p1 := (el_at (s := shown) (f := I) (k := 1) hd7)
    cases h5 : decide (x7 < (-1048576)) with
    | true =>
      have g5 := of_decide_eq_true h5
      exact zH [.rw 28 (I ((shown.l.length : Nat) : Int)), .dec true, .el (I x7), .dec true] (And.intro h5 (And.intro p1 (And.intro (lt_at hd7) (And.intro (zn I shown) trivial)))) (by kernel_rfl)
    | false =>
      have g5 := of_decide_eq_false h5
      have p2 := (el_at (s := shown) (f := I) (k := 1) hd7)
      cases h6 : decide (x7 > 1074790400) with
      | true =>
        have g6 := of_decide_eq_true h6
        exact zH [.rw 28 (I ((shown.l.length : Nat) : Int)), .dec true, .el (I x7), .dec false, .el (I x7), .dec true] (And.intro h6 (And.intro p2 (And.intro h5 (And.intro p1 (And.intro (lt_at hd7) (And.intro (zn I shown) trivial)))))) (by kernel_rfl)
      | false =>
        have g6 := of_decide_eq_false h6
        exact po_turn [.rw 28 (I ((shown.l.length : Nat) : Int)), .dec true, .el (I x7), .dec false, .el (I x7), .dec false, .rw 31 (I ((i7 + 1 : Nat) : Int))] (And.intro (inc_rw (i := i7) (by have := zv hd7; omega)) (And.intro h6 (And.intro p2 (And.intro h5 (And.intro p1 (And.intro (lt_at hd7) (And.intro (zn I shown) trivial))))))) (ih (i7 + 1) (zA hd7) (zv hd7) (by first | assumption | omega | (with_reducible exact z9) | (with_reducible exact Nat.le_trans zb (by omega)) | (with_reducible exact Nat.le_trans zc (by omega)) | (with_reducible exact Nat.le_trans zd (by omega)) | (simp only [z8] at * <;> omega) | (simp only [z5, z6, z7, GS.nil_l, GS.some_l, List.length_set, List.length_append, List.length_cons, List.length_nil] at * <;> first | with_reducible assumption | omega) | (simp only [z5, z6, z7, GS.nil_l, GS.some_l, List.length_set, List.length_append, List.length_cons, List.length_nil, z8] at * <;> first | with_reducible assumption | omega) | (simp at * <;> omega)) (by first | assumption | omega | (with_reducible exact z9) | (with_reducible exact Nat.le_trans zb (by omega)) | (with_reducible exact Nat.le_trans zc (by omega)) | (with_reducible exact Nat.le_trans zd (by omega)) | (simp only [z8] at * <;> omega) | (simp only [z5, z6, z7, GS.nil_l, GS.some_l, List.length_set, List.length_append, List.length_cons, List.length_nil] at * <;> first | with_reducible assumption | omega) | (simp only [z5, z6, z7, GS.nil_l, GS.some_l, List.length_set, List.length_append, List.length_cons, List.length_nil, z8] at * <;> first | with_reducible assumption | omega) | (simp at * <;> omega)) (by first | assumption | omega | (with_reducible exact z9) | (with_reducible exact Nat.le_trans zb (by omega)) | (with_reducible exact Nat.le_trans zc (by omega)) | (with_reducible exact Nat.le_trans zd (by omega)) | (simp only [z8] at * <;> omega) | (simp only [z5, z6, z7, GS.nil_l, GS.some_l, List.length_set, List.length_append, List.length_cons, List.length_nil] at * <;> first | with_reducible assumption | omega) | (simp only [z5, z6, z7, GS.nil_l, GS.some_l, List.length_set, List.length_append, List.length_cons, List.length_nil, z8] at * <;> first | with_reducible assumption | omega) | (simp at * <;> omega)) (by first | assumption | omega | (with_reducible exact z9) | (with_reducible exact Nat.le_trans zb (by omega)) | (with_reducible exact Nat.le_trans zc (by omega)) | (with_reducible exact Nat.le_trans zd (by omega)) | (simp only [z8] at * <;> omega) | (simp only [z5, z6, z7, GS.nil_l, GS.some_l, List.length_set, List.length_append, List.length_cons, List.length_nil] at * <;> first | with_reducible assumption | omega) | (simp only [z5, z6, z7, GS.nil_l, GS.some_l, List.length_set, List.length_append, List.length_cons, List.length_nil, z8] at * <;> first | with_reducible assumption | omega) | (simp at * <;> omega))) (by kernel_rfl)

noncomputable def lp42_13 : Code := subC [1, 1, 1, 1, 1, 1, 0, 1, 0, 0] (bodyC Tryz.f42)

def sd80 (e : S_Estate) (items : GS Int) (shown : GS Int) (i13 : Nat) (x13 : Int) (v13_0 : List S_Item) : St := ⟨97, [(11, I ((i13 + 1 : Nat) : Int)), (52, I ((i13 + 1 : Nat) : Int)), (51, I ((i13 : Nat) : Int)), (91, .lref 3 ((x13).toNat) 4 0), (90, .lref 3 ((x13).toNat) 4 0), (89, .agg [I (imax ((GS.at e.items x13).now.lo) (w64 ((GS.at shown ((i13 : Nat) : Int)) - ((GS.at e.items x13).error)))), I (zV ((GS.at e.items x13).now.hi) (w64 ((GS.at shown ((i13 : Nat) : Int)) + ((GS.at e.items x13).error))))]), (88, I (zV ((GS.at e.items x13).now.hi) (w64 ((GS.at shown ((i13 : Nat) : Int)) + ((GS.at e.items x13).error))))), (87, I (w64 ((GS.at shown ((i13 : Nat) : Int)) + ((GS.at e.items x13).error)))), (86, I ((GS.at e.items x13).error)), (85, .lref 4 0 4 3), (84, I (GS.at shown ((i13 : Nat) : Int))), (83, .ptr (I (GS.at shown ((i13 : Nat) : Int)))), (82, I ((i13 : Nat) : Int)), (81, .sl shown.nl (shown.l.map I) (zsl shown.nl 1) none), (80, I ((GS.at e.items x13).now.hi)), (79, .lref 4 0 4 1), (78, .lref 4 0 4 0), (77, I (imax ((GS.at e.items x13).now.lo) (w64 ((GS.at shown ((i13 : Nat) : Int)) - ((GS.at e.items x13).error))))), (76, I (w64 ((GS.at shown ((i13 : Nat) : Int)) - ((GS.at e.items x13).error)))), (75, I ((GS.at e.items x13).error)), (74, .lref 4 0 4 3), (73, I (GS.at shown ((i13 : Nat) : Int))), (72, .ptr (I (GS.at shown ((i13 : Nat) : Int)))), (71, I ((i13 : Nat) : Int)), (70, .sl shown.nl (shown.l.map I) (zsl shown.nl 1) none), (69, I ((GS.at e.items x13).now.lo)), (68, .lref 4 0 4 0), (67, .lref 4 0 4 0), (66, I x13), (65, .ptr (I x13)), (64, I ((i13 : Nat) : Int)), (63, .sl items.nl (items.l.map I) (zsl items.nl 1) none), (62, .lsl 3 0 e.items.l.length 4 none), (61, .lref 2 0 3 0), (12, .lref 4 0 4 0), (60, .agg [I ((GS.at e.items x13).now.lo), I ((GS.at e.items x13).now.hi), I ((GS.at e.items x13).cost), I ((GS.at e.items x13).error)]), (59, .ptr (.agg [I ((GS.at e.items x13).now.lo), I ((GS.at e.items x13).now.hi), I ((GS.at e.items x13).cost), I ((GS.at e.items x13).error)])), (58, I x13), (57, .ptr (I x13)), (56, I ((i13 : Nat) : Int)), (55, .sl items.nl (items.l.map I) (zsl items.nl 1) none), (54, .sl e.items.nl (e.items.l.map S_Item.D) (zsl e.items.nl 4) none), (53, .lref 0 0 3 0), (50, B true), (49, I ((items.l.length : Nat) : Int)), (48, .sl items.nl (items.l.map I) (zsl items.nl 1) none), (47, I ((i13 : Nat) : Int)), (1, .sl items.nl (items.l.map I) (zsl items.nl 1) none), (2, .sl shown.nl (shown.l.map I) (zsl shown.nl 1) none), (3, .lref 0 0 3 0), (6, .lref 1 0 3 0), (10, .lref 2 0 3 0), (11, I ((i13 : Nat) : Int))], [(0, ⟨[.agg [.sl e.items.nl (e.items.l.map S_Item.D) (zsl e.items.nl 4) none, I e.whole.lo, I e.whole.hi]], 3, false⟩), (1, ⟨[.agg [.sl true [] 0 none, I 0, I 0]], 3, false⟩), (2, ⟨[.agg [.lsl 3 0 e.items.l.length 4 none, I e.whole.lo, I e.whole.hi]], 3, false⟩), (3, ⟨(v13_0.set ((x13).toNat) (⟨(⟨imax ((GS.at e.items x13).now.lo) (w64 ((GS.at shown ((i13 : Nat) : Int)) - ((GS.at e.items x13).error))), zV ((GS.at e.items x13).now.hi) (w64 ((GS.at shown ((i13 : Nat) : Int)) + ((GS.at e.items x13).error)))⟩ : S_Span), (v13_0.getD ((x13).toNat) default).cost, (v13_0.getD ((x13).toNat) default).error⟩ : S_Item)).map S_Item.D, 4, false⟩), (4, ⟨[.agg [I ((GS.at e.items x13).now.lo), I ((GS.at e.items x13).now.hi), I ((GS.at e.items x13).cost), I ((GS.at e.items x13).error)]], 4, false⟩)], 5, 0⟩

inductive LR_r_Measured_13 where
  | x0 (v13_0 : List S_Item)
instance : Inhabited LR_r_Measured_13 := ⟨.x0 default⟩
def r_Measured_13 (e : S_Estate) (shown : GS Int) : List Int → Nat → (List S_Item) → LR_r_Measured_13
  | [], i13, v13_0 => .x0 v13_0
  | x13 :: rest13, i13, v13_0 =>
    r_Measured_13 e shown rest13 (i13 + 1) (v13_0.set ((x13).toNat) (⟨(⟨imax ((GS.at e.items x13).now.lo) (w64 ((GS.at shown ((i13 : Nat) : Int)) - ((GS.at e.items x13).error))), zV ((GS.at e.items x13).now.hi) (w64 ((GS.at shown ((i13 : Nat) : Int)) + ((GS.at e.items x13).error)))⟩ : S_Span), (v13_0.getD ((x13).toNat) default).cost, (v13_0.getD ((x13).toNat) default).error⟩ : S_Item))
def lr_r_Measured_13 (e : S_Estate) (items : GS Int) (shown : GS Int) : LR_r_Measured_13 → Exit × St
  | .x0 v13_0 => ((.exit 2), ⟨97, [(50, B false), (49, I ((items.l.length : Nat) : Int)), (48, .sl items.nl (items.l.map I) (zsl items.nl 1) none), (47, I ((items.l.length : Nat) : Int)), (1, .sl items.nl (items.l.map I) (zsl items.nl 1) none), (2, .sl shown.nl (shown.l.map I) (zsl shown.nl 1) none), (3, .lref 0 0 3 0), (6, .lref 1 0 3 0), (10, .lref 2 0 3 0), (11, I ((items.l.length : Nat) : Int))], [(0, ⟨[.agg [.sl e.items.nl (e.items.l.map S_Item.D) (zsl e.items.nl 4) none, I e.whole.lo, I e.whole.hi]], 3, false⟩), (1, ⟨[.agg [.sl true [] 0 none, I 0, I 0]], 3, false⟩), (2, ⟨[.agg [.lsl 3 0 e.items.l.length 4 none, I e.whole.lo, I e.whole.hi]], 3, false⟩), (3, ⟨v13_0.map S_Item.D, 4, false⟩)], 4, 0⟩)
def iv_r_Measured_13 (e : S_Estate) (items : GS Int) (shown : GS Int) : LR_r_Measured_13 → Prop
  | .x0 v13_0 => (v13_0.length = e.items.l.length)
theorem lp_r_Measured_13 (e : S_Estate) (items : GS Int) (shown : GS Int) : ∀ (rest13 : List Int) (i13 : Nat) (v13_0 : List S_Item) (hd13 : items.l.drop i13 = rest13) (hi13 : i13 ≤ items.l.length) (hls : shown.l.length = items.l.length) (hle : 1 ≤ e.items.l.length ∧ e.items.l.length ≤ 12) (hall : ∀ i ∈ items.l, 0 ≤ i ∧ i < ((e.items.l.length : Nat) : Int)) (hl13_v13_0 : v13_0.length = e.items.l.length) (hL13 : items.l.length ≤ 9223372036854775807), (lim cfg).loop 42 lp42_13 ⟨97, [(1, .sl items.nl (items.l.map I) (zsl items.nl 1) none), (2, .sl shown.nl (shown.l.map I) (zsl shown.nl 1) none), (3, .lref 0 0 3 0), (6, .lref 1 0 3 0), (10, .lref 2 0 3 0), (11, I ((i13 : Nat) : Int))], [(0, ⟨[.agg [.sl e.items.nl (e.items.l.map S_Item.D) (zsl e.items.nl 4) none, I e.whole.lo, I e.whole.hi]], 3, false⟩), (1, ⟨[.agg [.sl true [] 0 none, I 0, I 0]], 3, false⟩), (2, ⟨[.agg [.lsl 3 0 e.items.l.length 4 none, I e.whole.lo, I e.whole.hi]], 3, false⟩), (3, ⟨v13_0.map S_Item.D, 4, false⟩)], 4, 0⟩ = some (lr_r_Measured_13 e items shown (r_Measured_13 e shown rest13 i13 v13_0)) := by
  intro rest13
  induction rest13 with
  | nil =>
    intro i13 v13_0 hd13 hi13 hls hle hall hl13_v13_0 hL13
    unfold r_Measured_13
    obtain rfl : i13 = items.l.length := nil_eq hd13 hi13
    exact zH [.rw 49 (I ((items.l.length : Nat) : Int)), .dec false] (And.intro (lt_no hd13) (And.intro (zn I items) trivial)) (by kernel_rfl)
  | cons x13 rest13 ih =>
    intro i13 v13_0 hd13 hi13 hls hle hall hl13_v13_0 hL13
    have hlt13 := zv hd13
    have hbx := hall x13 (mem_drop hd13)
    unfold r_Measured_13
    exact po_turn' (ks := [1, 2, 3, 6, 10, 11]) (st' := (sd80 e items shown i13 x13 v13_0)) [.rw 49 (I ((items.l.length : Nat) : Int)), .dec true, .el (I x13), .el (.agg [I ((GS.at e.items x13).now.lo), I ((GS.at e.items x13).now.hi), I ((GS.at e.items x13).cost), I ((GS.at e.items x13).error)]), .el (I x13), .el (I (GS.at shown ((i13 : Nat) : Int))), .el (I (GS.at shown ((i13 : Nat) : Int))), .op (some 90) ⟨.lref 3 ((x13).toNat) 4 0, [], [], 5⟩, .stS 3 ⟨.tup [], [(3, some ⟨(v13_0.set ((x13).toNat) (⟨(⟨imax ((GS.at e.items x13).now.lo) (w64 ((GS.at shown ((i13 : Nat) : Int)) - ((GS.at e.items x13).error))), zV ((GS.at e.items x13).now.hi) (w64 ((GS.at shown ((i13 : Nat) : Int)) + ((GS.at e.items x13).error)))⟩ : S_Span), (v13_0.getD ((x13).toNat) default).cost, (v13_0.getD ((x13).toNat) default).error⟩ : S_Item)).map S_Item.D, 4, false⟩)], [3], 5⟩, .rw 52 (I ((i13 + 1 : Nat) : Int))] (And.intro (inc_rw (i := i13) (by have := zv hd13; omega)) (And.intro (store_row (C := cfg) (objs := [(0, ⟨[.agg [.sl e.items.nl (e.items.l.map S_Item.D) (zsl e.items.nl 4) none, I e.whole.lo, I e.whole.hi]], 3, false⟩), (1, ⟨[.agg [.sl true [] 0 none, I 0, I 0]], 3, false⟩), (2, ⟨[.agg [.lsl 3 0 e.items.l.length 4 none, I e.whole.lo, I e.whole.hi]], 3, false⟩), (3, ⟨v13_0.map S_Item.D, 4, false⟩), (4, ⟨[.agg [I ((GS.at e.items x13).now.lo), I ((GS.at e.items x13).now.hi), I ((GS.at e.items x13).cost), I ((GS.at e.items x13).error)]], 4, false⟩)]) (nxt := 5) (t := 24) (ty := ty24) (o := 3) (n := (x13).toNat) (sz := 4) (sub := 0) (els := v13_0.map S_Item.D) (els' := (v13_0.set ((x13).toNat) (⟨(⟨imax ((GS.at e.items x13).now.lo) (w64 ((GS.at shown ((i13 : Nat) : Int)) - ((GS.at e.items x13).error))), zV ((GS.at e.items x13).now.hi) (w64 ((GS.at shown ((i13 : Nat) : Int)) + ((GS.at e.items x13).error)))⟩ : S_Span), (v13_0.getD ((x13).toNat) default).cost, (v13_0.getD ((x13).toNat) default).error⟩ : S_Item)).map S_Item.D) (e := S_Item.D (v13_0.getD ((x13).toNat) default)) (e' := S_Item.D (⟨(⟨imax ((GS.at e.items x13).now.lo) (w64 ((GS.at shown ((i13 : Nat) : Int)) - ((GS.at e.items x13).error))), zV ((GS.at e.items x13).now.hi) (w64 ((GS.at shown ((i13 : Nat) : Int)) + ((GS.at e.items x13).error)))⟩ : S_Span), (v13_0.getD ((x13).toNat) default).cost, (v13_0.getD ((x13).toNat) default).error⟩ : S_Item)) (v := .agg [I (imax ((GS.at e.items x13).now.lo) (w64 ((GS.at shown ((i13 : Nat) : Int)) - ((GS.at e.items x13).error)))), I (zV ((GS.at e.items x13).now.hi) (w64 ((GS.at shown ((i13 : Nat) : Int)) + ((GS.at e.items x13).error))))]) (by kernel_rfl) (by kernel_rfl) (row_get (f := S_Item.D) (by first | assumption | omega | (with_reducible exact z9) | (with_reducible exact Nat.le_trans zb (by omega)) | (with_reducible exact Nat.le_trans zc (by omega)) | (with_reducible exact Nat.le_trans zd (by omega)) | (simp only [z8] at * <;> omega) | (simp only [z5, z6, z7, GS.nil_l, GS.some_l, List.length_set, List.length_append, List.length_cons, List.length_nil] at * <;> first | with_reducible assumption | omega) | (simp only [z5, z6, z7, GS.nil_l, GS.some_l, List.length_set, List.length_append, List.length_cons, List.length_nil, z8] at * <;> first | with_reducible assumption | omega) | (simp at * <;> omega))) rfl (by kernel_rfl) rfl (by kernel_rfl) (row_set (f := S_Item.D))) (And.intro (idx_row (C := cfg) (nxt := 5) (t := 22) (ty := ty22) (te := ty69) (e := 69) (o := 3) (len := e.items.l.length) (sz := 4) (cap := none) (i := x13) (by kernel_rfl) rfl (by kernel_rfl) rfl (by first | assumption | omega | (with_reducible exact z9) | (with_reducible exact Nat.le_trans zb (by omega)) | (with_reducible exact Nat.le_trans zc (by omega)) | (with_reducible exact Nat.le_trans zd (by omega)) | (simp only [z8] at * <;> omega) | (simp only [z5, z6, z7, GS.nil_l, GS.some_l, List.length_set, List.length_append, List.length_cons, List.length_nil] at * <;> first | with_reducible assumption | omega) | (simp only [z5, z6, z7, GS.nil_l, GS.some_l, List.length_set, List.length_append, List.length_cons, List.length_nil, z8] at * <;> first | with_reducible assumption | omega) | (simp at * <;> omega)) (by first | assumption | omega | (with_reducible exact z9) | (with_reducible exact Nat.le_trans zb (by omega)) | (with_reducible exact Nat.le_trans zc (by omega)) | (with_reducible exact Nat.le_trans zd (by omega)) | (simp only [z8] at * <;> omega) | (simp only [z5, z6, z7, GS.nil_l, GS.some_l, List.length_set, List.length_append, List.length_cons, List.length_nil] at * <;> first | with_reducible assumption | omega) | (simp only [z5, z6, z7, GS.nil_l, GS.some_l, List.length_set, List.length_append, List.length_cons, List.length_nil, z8] at * <;> first | with_reducible assumption | omega) | (simp at * <;> omega))) (And.intro (el_in (s := shown) (f := I) (k := 1) (i := ((i13 : Nat) : Int)) (by first | assumption | omega | (with_reducible exact z9) | (with_reducible exact Nat.le_trans zb (by omega)) | (with_reducible exact Nat.le_trans zc (by omega)) | (with_reducible exact Nat.le_trans zd (by omega)) | (simp only [z8] at * <;> omega) | (simp only [z5, z6, z7, GS.nil_l, GS.some_l, List.length_set, List.length_append, List.length_cons, List.length_nil] at * <;> first | with_reducible assumption | omega) | (simp only [z5, z6, z7, GS.nil_l, GS.some_l, List.length_set, List.length_append, List.length_cons, List.length_nil, z8] at * <;> first | with_reducible assumption | omega) | (simp at * <;> omega)) (by first | assumption | omega | (with_reducible exact z9) | (with_reducible exact Nat.le_trans zb (by omega)) | (with_reducible exact Nat.le_trans zc (by omega)) | (with_reducible exact Nat.le_trans zd (by omega)) | (simp only [z8] at * <;> omega) | (simp only [z5, z6, z7, GS.nil_l, GS.some_l, List.length_set, List.length_append, List.length_cons, List.length_nil] at * <;> first | with_reducible assumption | omega) | (simp only [z5, z6, z7, GS.nil_l, GS.some_l, List.length_set, List.length_append, List.length_cons, List.length_nil, z8] at * <;> first | with_reducible assumption | omega) | (simp at * <;> omega))) (And.intro (el_in (s := shown) (f := I) (k := 1) (i := ((i13 : Nat) : Int)) (by first | assumption | omega | (with_reducible exact z9) | (with_reducible exact Nat.le_trans zb (by omega)) | (with_reducible exact Nat.le_trans zc (by omega)) | (with_reducible exact Nat.le_trans zd (by omega)) | (simp only [z8] at * <;> omega) | (simp only [z5, z6, z7, GS.nil_l, GS.some_l, List.length_set, List.length_append, List.length_cons, List.length_nil] at * <;> first | with_reducible assumption | omega) | (simp only [z5, z6, z7, GS.nil_l, GS.some_l, List.length_set, List.length_append, List.length_cons, List.length_nil, z8] at * <;> first | with_reducible assumption | omega) | (simp at * <;> omega)) (by first | assumption | omega | (with_reducible exact z9) | (with_reducible exact Nat.le_trans zb (by omega)) | (with_reducible exact Nat.le_trans zc (by omega)) | (with_reducible exact Nat.le_trans zd (by omega)) | (simp only [z8] at * <;> omega) | (simp only [z5, z6, z7, GS.nil_l, GS.some_l, List.length_set, List.length_append, List.length_cons, List.length_nil] at * <;> first | with_reducible assumption | omega) | (simp only [z5, z6, z7, GS.nil_l, GS.some_l, List.length_set, List.length_append, List.length_cons, List.length_nil, z8] at * <;> first | with_reducible assumption | omega) | (simp at * <;> omega))) (And.intro (el_at (s := items) (f := I) (k := 1) hd13) (And.intro (el_in (s := e.items) (f := S_Item.D) (k := 4) (i := x13) (by first | assumption | omega | (with_reducible exact z9) | (with_reducible exact Nat.le_trans zb (by omega)) | (with_reducible exact Nat.le_trans zc (by omega)) | (with_reducible exact Nat.le_trans zd (by omega)) | (simp only [z8] at * <;> omega) | (simp only [z5, z6, z7, GS.nil_l, GS.some_l, List.length_set, List.length_append, List.length_cons, List.length_nil] at * <;> first | with_reducible assumption | omega) | (simp only [z5, z6, z7, GS.nil_l, GS.some_l, List.length_set, List.length_append, List.length_cons, List.length_nil, z8] at * <;> first | with_reducible assumption | omega) | (simp at * <;> omega)) (by first | assumption | omega | (with_reducible exact z9) | (with_reducible exact Nat.le_trans zb (by omega)) | (with_reducible exact Nat.le_trans zc (by omega)) | (with_reducible exact Nat.le_trans zd (by omega)) | (simp only [z8] at * <;> omega) | (simp only [z5, z6, z7, GS.nil_l, GS.some_l, List.length_set, List.length_append, List.length_cons, List.length_nil] at * <;> first | with_reducible assumption | omega) | (simp only [z5, z6, z7, GS.nil_l, GS.some_l, List.length_set, List.length_append, List.length_cons, List.length_nil, z8] at * <;> first | with_reducible assumption | omega) | (simp at * <;> omega))) (And.intro (el_at (s := items) (f := I) (k := 1) hd13) (And.intro (lt_at hd13) (And.intro (zn I items) trivial)))))))))) (by kernel_rfl) (by (simp only [sd80, go_sem, Nat.reduceAdd, Nat.reduceEqDiff, Nat.reduceLT, Nat.reduceLeDiff, bI2, zN.idsL, zN.renL, zN.snapAll, zi.idsL, zi.renL, zi.snapAll]) <;> rfl) (ih (i13 + 1) (v13_0.set ((x13).toNat) (⟨(⟨imax ((GS.at e.items x13).now.lo) (w64 ((GS.at shown ((i13 : Nat) : Int)) - ((GS.at e.items x13).error))), zV ((GS.at e.items x13).now.hi) (w64 ((GS.at shown ((i13 : Nat) : Int)) + ((GS.at e.items x13).error)))⟩ : S_Span), (v13_0.getD ((x13).toNat) default).cost, (v13_0.getD ((x13).toNat) default).error⟩ : S_Item)) (zA hd13) (zv hd13) (by first | assumption | omega | (with_reducible exact z9) | (with_reducible exact Nat.le_trans zb (by omega)) | (with_reducible exact Nat.le_trans zc (by omega)) | (with_reducible exact Nat.le_trans zd (by omega)) | (simp only [z8] at * <;> omega) | (simp only [z5, z6, z7, GS.nil_l, GS.some_l, List.length_set, List.length_append, List.length_cons, List.length_nil] at * <;> first | with_reducible assumption | omega) | (simp only [z5, z6, z7, GS.nil_l, GS.some_l, List.length_set, List.length_append, List.length_cons, List.length_nil, z8] at * <;> first | with_reducible assumption | omega) | (simp at * <;> omega)) (by first | assumption | omega | (with_reducible exact z9) | (with_reducible exact Nat.le_trans zb (by omega)) | (with_reducible exact Nat.le_trans zc (by omega)) | (with_reducible exact Nat.le_trans zd (by omega)) | (simp only [z8] at * <;> omega) | (simp only [z5, z6, z7, GS.nil_l, GS.some_l, List.length_set, List.length_append, List.length_cons, List.length_nil] at * <;> first | with_reducible assumption | omega) | (simp only [z5, z6, z7, GS.nil_l, GS.some_l, List.length_set, List.length_append, List.length_cons, List.length_nil, z8] at * <;> first | with_reducible assumption | omega) | (simp at * <;> omega)) (by first | assumption | omega | (with_reducible exact z9) | (with_reducible exact Nat.le_trans zb (by omega)) | (with_reducible exact Nat.le_trans zc (by omega)) | (with_reducible exact Nat.le_trans zd (by omega)) | (simp only [z8] at * <;> omega) | (simp only [z5, z6, z7, GS.nil_l, GS.some_l, List.length_set, List.length_append, List.length_cons, List.length_nil] at * <;> first | with_reducible assumption | omega) | (simp only [z5, z6, z7, GS.nil_l, GS.some_l, List.length_set, List.length_append, List.length_cons, List.length_nil, z8] at * <;> first | with_reducible assumption | omega) | (simp at * <;> omega)) (by first | assumption | omega | (with_reducible exact z9) | (with_reducible exact Nat.le_trans zb (by omega)) | (with_reducible exact Nat.le_trans zc (by omega)) | (with_reducible exact Nat.le_trans zd (by omega)) | (simp only [z8] at * <;> omega) | (simp only [z5, z6, z7, GS.nil_l, GS.some_l, List.length_set, List.length_append, List.length_cons, List.length_nil] at * <;> first | with_reducible assumption | omega) | (simp only [z5, z6, z7, GS.nil_l, GS.some_l, List.length_set, List.length_append, List.length_cons, List.length_nil, z8] at * <;> first | with_reducible assumption | omega) | (simp at * <;> omega)) (by first | assumption | omega | (with_reducible exact z9) | (with_reducible exact Nat.le_trans zb (by omega)) | (with_reducible exact Nat.le_trans zc (by omega)) | (with_reducible exact Nat.le_trans zd (by omega)) | (simp only [z8] at * <;> omega) | (simp only [z5, z6, z7, GS.nil_l, GS.some_l, List.length_set, List.length_append, List.length_cons, List.length_nil] at * <;> first | with_reducible assumption | omega) | (simp only [z5, z6, z7, GS.nil_l, GS.some_l, List.length_set, List.length_append, List.length_cons, List.length_nil, z8] at * <;> first | with_reducible assumption | omega) | (simp at * <;> omega))) (by kernel_rfl)
theorem ivt_r_Measured_13 (e : S_Estate) (items : GS Int) (shown : GS Int) : ∀ (rest13 : List Int) (i13 : Nat) (v13_0 : List S_Item) (hd13 : items.l.drop i13 = rest13) (hi13 : i13 ≤ items.l.length) (hls : shown.l.length = items.l.length) (hle : 1 ≤ e.items.l.length ∧ e.items.l.length ≤ 12) (hall : ∀ i ∈ items.l, 0 ≤ i ∧ i < ((e.items.l.length : Nat) : Int)) (hl13_v13_0 : v13_0.length = e.items.l.length) (hL13 : items.l.length ≤ 9223372036854775807), iv_r_Measured_13 e items shown (r_Measured_13 e shown rest13 i13 v13_0) := by
  intro rest13
  induction rest13 with
  | nil =>
    intro i13 v13_0 hd13 hi13 hls hle hall hl13_v13_0 hL13
    unfold r_Measured_13
    obtain rfl : i13 = items.l.length := nil_eq hd13 hi13
    exact hl13_v13_0
  | cons x13 rest13 ih =>
    intro i13 v13_0 hd13 hi13 hls hle hall hl13_v13_0 hL13
    have hlt13 := zv hd13
    have hbx := hall x13 (mem_drop hd13)
    unfold r_Measured_13
    exact ih (i13 + 1) (v13_0.set ((x13).toNat) (⟨(⟨imax ((GS.at e.items x13).now.lo) (w64 ((GS.at shown ((i13 : Nat) : Int)) - ((GS.at e.items x13).error))), zV ((GS.at e.items x13).now.hi) (w64 ((GS.at shown ((i13 : Nat) : Int)) + ((GS.at e.items x13).error)))⟩ : S_Span), (v13_0.getD ((x13).toNat) default).cost, (v13_0.getD ((x13).toNat) default).error⟩ : S_Item)) (zA hd13) (zv hd13) (by first | assumption | omega | (with_reducible exact z9) | (with_reducible exact Nat.le_trans zb (by omega)) | (with_reducible exact Nat.le_trans zc (by omega)) | (with_reducible exact Nat.le_trans zd (by omega)) | (simp only [z8] at * <;> omega) | (simp only [z5, z6, z7, GS.nil_l, GS.some_l, List.length_set, List.length_append, List.length_cons, List.length_nil] at * <;> first | with_reducible assumption | omega) | (simp only [z5, z6, z7, GS.nil_l, GS.some_l, List.length_set, List.length_append, List.length_cons, List.length_nil, z8] at * <;> first | with_reducible assumption | omega) | (simp at * <;> omega)) (by first | assumption | omega | (with_reducible exact z9) | (with_reducible exact Nat.le_trans zb (by omega)) | (with_reducible exact Nat.le_trans zc (by omega)) | (with_reducible exact Nat.le_trans zd (by omega)) | (simp only [z8] at * <;> omega) | (simp only [z5, z6, z7, GS.nil_l, GS.some_l, List.length_set, List.length_append, List.length_cons, List.length_nil] at * <;> first | with_reducible assumption | omega) | (simp only [z5, z6, z7, GS.nil_l, GS.some_l, List.length_set, List.length_append, List.length_cons, List.length_nil, z8] at * <;> first | with_reducible assumption | omega) | (simp at * <;> omega)) (by first | assumption | omega | (with_reducible exact z9) | (with_reducible exact Nat.le_trans zb (by omega)) | (with_reducible exact Nat.le_trans zc (by omega)) | (with_reducible exact Nat.le_trans zd (by omega)) | (simp only [z8] at * <;> omega) | (simp only [z5, z6, z7, GS.nil_l, GS.some_l, List.length_set, List.length_append, List.length_cons, List.length_nil] at * <;> first | with_reducible assumption | omega) | (simp only [z5, z6, z7, GS.nil_l, GS.some_l, List.length_set, List.length_append, List.length_cons, List.length_nil, z8] at * <;> first | with_reducible assumption | omega) | (simp at * <;> omega)) (by first | assumption | omega | (with_reducible exact z9) | (with_reducible exact Nat.le_trans zb (by omega)) | (with_reducible exact Nat.le_trans zc (by omega)) | (with_reducible exact Nat.le_trans zd (by omega)) | (simp only [z8] at * <;> omega) | (simp only [z5, z6, z7, GS.nil_l, GS.some_l, List.length_set, List.length_append, List.length_cons, List.length_nil] at * <;> first | with_reducible assumption | omega) | (simp only [z5, z6, z7, GS.nil_l, GS.some_l, List.length_set, List.length_append, List.length_cons, List.length_nil, z8] at * <;> first | with_reducible assumption | omega) | (simp at * <;> omega)) (by first | assumption | omega | (with_reducible exact z9) | (with_reducible exact Nat.le_trans zb (by omega)) | (with_reducible exact Nat.le_trans zc (by omega)) | (with_reducible exact Nat.le_trans zd (by omega)) | (simp only [z8] at * <;> omega) | (simp only [z5, z6, z7, GS.nil_l, GS.some_l, List.length_set, List.length_append, List.length_cons, List.length_nil] at * <;> first | with_reducible assumption | omega) | (simp only [z5, z6, z7, GS.nil_l, GS.some_l, List.length_set, List.length_append, List.length_cons, List.length_nil, z8] at * <;> first | with_reducible assumption | omega) | (simp at * <;> omega))

def r_Measured (e : S_Estate) (items : GS Int) (shown : GS Int) : S_Estate × Int :=
  bif ((r_first e items) != 0) then
    ((⟨GS.nil, (⟨0, 0⟩ : S_Span)⟩ : S_Estate), (r_first e items))
  else
    bif (((shown.l.length : Nat) : Int) != ((items.l.length : Nat) : Int)) then
      ((⟨GS.nil, (⟨0, 0⟩ : S_Span)⟩ : S_Estate), 1)
    else
      match r_Measured_7 shown.l 0 with
      | .x0 =>
        match r_Measured_13 e shown items.l 0 e.items.l with
        | .x0 v13_0 =>
          bif (zR (⟨GS.some v13_0, e.whole⟩ : S_Estate)) then
            ((⟨GS.some v13_0, e.whole⟩ : S_Estate), 0)
          else
            ((⟨GS.nil, (⟨0, 0⟩ : S_Span)⟩ : S_Estate), 4)
      | .x1 i7 x7 =>
        ((⟨GS.nil, (⟨0, 0⟩ : S_Span)⟩ : S_Estate), 1)
      | .x2 i7 x7 =>
        ((⟨GS.nil, (⟨0, 0⟩ : S_Span)⟩ : S_Estate), 1)

def r_Measured_o1 (e : S_Estate) (items : GS Int) (shown : GS Int) : List Ora := [.pure (I (r_first e items)), .dec false, .rw 21 (I ((shown.l.length : Nat) : Int)), .rw 23 (I ((items.l.length : Nat) : Int))]

def sd79 (e : S_Estate) (items : GS Int) (shown : GS Int) : St := ⟨97, [(29, B false), (28, I ((shown.l.length : Nat) : Int)), (27, .sl shown.nl (shown.l.map I) (zsl shown.nl 1) none), (26, I ((shown.l.length : Nat) : Int)), (1, .sl items.nl (items.l.map I) (zsl items.nl 1) none), (2, .sl shown.nl (shown.l.map I) (zsl shown.nl 1) none), (3, .lref 0 0 3 0), (6, .lref 1 0 3 0), (9, I ((shown.l.length : Nat) : Int))], [(0, ⟨[.agg [.sl e.items.nl (e.items.l.map S_Item.D) (zsl e.items.nl 4) none, I e.whole.lo, I e.whole.hi]], 3, false⟩), (1, ⟨[.agg [.sl true [] 0 none, I 0, I 0]], 3, false⟩)], 2, 0⟩

def sd82 (e : S_Estate) (items : GS Int) (shown : GS Int) : St := ⟨97, [(1, .sl items.nl (items.l.map I) (zsl items.nl 1) none), (2, .sl shown.nl (shown.l.map I) (zsl shown.nl 1) none), (3, .lref 0 0 3 0), (6, .lref 1 0 3 0), (10, .lref 2 0 3 0), (11, I 0)], [(0, ⟨[.agg [.sl e.items.nl (e.items.l.map S_Item.D) (zsl e.items.nl 4) none, I e.whole.lo, I e.whole.hi]], 3, false⟩), (1, ⟨[.agg [.sl true [] 0 none, I 0, I 0]], 3, false⟩), (2, ⟨[.agg [.lsl 3 0 e.items.l.length 4 none, I e.whole.lo, I e.whole.hi]], 3, false⟩), (3, ⟨e.items.l.map S_Item.D, 4, false⟩)], 4, 0⟩

def sd83 (e : S_Estate) (items : GS Int) (shown : GS Int) (v13_0 : List S_Item) : St := ⟨97, [(50, B false), (49, I ((items.l.length : Nat) : Int)), (48, .sl items.nl (items.l.map I) (zsl items.nl 1) none), (47, I ((items.l.length : Nat) : Int)), (1, .sl items.nl (items.l.map I) (zsl items.nl 1) none), (2, .sl shown.nl (shown.l.map I) (zsl shown.nl 1) none), (3, .lref 0 0 3 0), (6, .lref 1 0 3 0), (10, .lref 2 0 3 0), (11, I ((items.l.length : Nat) : Int))], [(0, ⟨[.agg [.sl e.items.nl (e.items.l.map S_Item.D) (zsl e.items.nl 4) none, I e.whole.lo, I e.whole.hi]], 3, false⟩), (1, ⟨[.agg [.sl true [] 0 none, I 0, I 0]], 3, false⟩), (2, ⟨[.agg [.lsl 3 0 e.items.l.length 4 none, I e.whole.lo, I e.whole.hi]], 3, false⟩), (3, ⟨v13_0.map S_Item.D, 4, false⟩)], 4, 0⟩

def r_Measured_o2 (e : S_Estate) (items : GS Int) (shown : GS Int) (v13_0 : List S_Item) : List Ora := [.dec false, .loop (.exit 0) (sd79 e items shown), .inl (.agg [.lsl 5 0 e.items.l.length 4 none, I e.whole.lo, I e.whole.hi]) [(2, ⟨[.agg [.sl e.items.nl (e.items.l.map S_Item.D) (zsl e.items.nl 4) none, I e.whole.lo, I e.whole.hi]], 3, false⟩), (3, ⟨[.agg [.lsl 5 0 e.items.l.length 4 none, I e.whole.lo, I e.whole.hi]], 3, false⟩), (4, ⟨[], 4, false⟩), (5, ⟨e.items.l.map S_Item.D, 4, false⟩)] 6, .gloop (sd82 e items shown) (.exit 2) (sd83 e items shown v13_0), .pureS (B (zR (⟨GS.some v13_0, e.whole⟩ : S_Estate))) true [(3, .sl false (v13_0.map S_Item.D) 4 none, [3])]]

def sd81 (e : S_Estate) (items : GS Int) (shown : GS Int) : St := ⟨97, [(11, I 0), (10, .lref 6 0 3 0), (46, .agg [.lsl 5 0 e.items.l.length 4 none, I e.whole.lo, I e.whole.hi]), (45, .agg [.sl e.items.nl (e.items.l.map S_Item.D) (zsl e.items.nl 4) none, I e.whole.lo, I e.whole.hi]), (29, B false), (28, I ((shown.l.length : Nat) : Int)), (27, .sl shown.nl (shown.l.map I) (zsl shown.nl 1) none), (26, I ((shown.l.length : Nat) : Int)), (1, .sl items.nl (items.l.map I) (zsl items.nl 1) none), (2, .sl shown.nl (shown.l.map I) (zsl shown.nl 1) none), (3, .lref 0 0 3 0), (6, .lref 1 0 3 0), (9, I ((shown.l.length : Nat) : Int))], [(0, ⟨[.agg [.sl e.items.nl (e.items.l.map S_Item.D) (zsl e.items.nl 4) none, I e.whole.lo, I e.whole.hi]], 3, false⟩), (1, ⟨[.agg [.sl true [] 0 none, I 0, I 0]], 3, false⟩), (2, ⟨[.agg [.sl e.items.nl (e.items.l.map S_Item.D) (zsl e.items.nl 4) none, I e.whole.lo, I e.whole.hi]], 3, false⟩), (3, ⟨[.agg [.lsl 5 0 e.items.l.length 4 none, I e.whole.lo, I e.whole.hi]], 3, false⟩), (4, ⟨[], 4, false⟩), (5, ⟨e.items.l.map S_Item.D, 4, false⟩), (6, ⟨[.agg [.lsl 5 0 e.items.l.length 4 none, I e.whole.lo, I e.whole.hi]], 3, false⟩)], 7, 0⟩

def sd84 (e : S_Estate) (items : GS Int) (shown : GS Int) (i7 : Nat) (x7 : Int) : St := ⟨97, [(7, I 1), (44, .agg [.sl true [] 0 none, I 0, I 0]), (43, B true), (42, .tup []), (41, .tup []), (40, .tup []), (39, .tup []), (38, .tup []), (37, B true), (36, B true), (35, I x7), (34, .ptr (I x7)), (33, I ((i7 : Nat) : Int)), (32, .sl shown.nl (shown.l.map I) (zsl shown.nl 1) none), (29, B true), (28, I ((shown.l.length : Nat) : Int)), (27, .sl shown.nl (shown.l.map I) (zsl shown.nl 1) none), (26, I ((i7 : Nat) : Int)), (1, .sl items.nl (items.l.map I) (zsl items.nl 1) none), (2, .sl shown.nl (shown.l.map I) (zsl shown.nl 1) none), (3, .lref 0 0 3 0), (6, .lref 1 0 3 0), (9, I ((i7 : Nat) : Int))], [(0, ⟨[.agg [.sl e.items.nl (e.items.l.map S_Item.D) (zsl e.items.nl 4) none, I e.whole.lo, I e.whole.hi]], 3, false⟩), (1, ⟨[.agg [.sl true [] 0 none, I 0, I 0]], 3, false⟩)], 2, 0⟩

def sd85 (e : S_Estate) (items : GS Int) (shown : GS Int) (i7 : Nat) (x7 : Int) : St := ⟨97, [(7, I 1), (44, .agg [.sl true [] 0 none, I 0, I 0]), (43, B true), (42, B true), (41, I x7), (40, .ptr (I x7)), (39, I ((i7 : Nat) : Int)), (38, .sl shown.nl (shown.l.map I) (zsl shown.nl 1) none), (37, B false), (36, B false), (35, I x7), (34, .ptr (I x7)), (33, I ((i7 : Nat) : Int)), (32, .sl shown.nl (shown.l.map I) (zsl shown.nl 1) none), (29, B true), (28, I ((shown.l.length : Nat) : Int)), (27, .sl shown.nl (shown.l.map I) (zsl shown.nl 1) none), (26, I ((i7 : Nat) : Int)), (1, .sl items.nl (items.l.map I) (zsl items.nl 1) none), (2, .sl shown.nl (shown.l.map I) (zsl shown.nl 1) none), (3, .lref 0 0 3 0), (6, .lref 1 0 3 0), (9, I ((i7 : Nat) : Int))], [(0, ⟨[.agg [.sl e.items.nl (e.items.l.map S_Item.D) (zsl e.items.nl 4) none, I e.whole.lo, I e.whole.hi]], 3, false⟩), (1, ⟨[.agg [.sl true [] 0 none, I 0, I 0]], 3, false⟩)], 2, 0⟩

theorem T_r_Measured (e : S_Estate) (items : GS Int) (shown : GS Int) (hL : items.l.length ≤ 9223372036854775807) (hLs : shown.l.length ≤ 9223372036854775807) : (lim cfg).pure 42 [S_Estate.D e, GS.D I 1 items, GS.D I 1 shown] = some (.tup [S_Estate.D ((r_Measured e items shown).1), I ((r_Measured e items shown).2)]) := by
  unfold r_Measured
  cases h1 : ((r_first e items) != 0) with
  | true =>
    have g1 := y0 h1
    exact zh [.pure (I (r_first e items)), .dec true] (And.intro h1 (And.intro (T_r_first e items (by first | assumption | omega | (with_reducible exact z9) | (with_reducible exact Nat.le_trans zb (by omega)) | (with_reducible exact Nat.le_trans zc (by omega)) | (with_reducible exact Nat.le_trans zd (by omega)) | (simp only [z8] at * <;> omega) | (simp only [z5, z6, z7, GS.nil_l, GS.some_l, List.length_set, List.length_append, List.length_cons, List.length_nil] at * <;> first | with_reducible assumption | omega) | (simp only [z5, z6, z7, GS.nil_l, GS.some_l, List.length_set, List.length_append, List.length_cons, List.length_nil, z8] at * <;> first | with_reducible assumption | omega) | (simp at * <;> omega))) trivial)) (by kernel_rfl)
  | false =>
    obtain ⟨g1, gb1⟩ := rfirst_ok (by assumption) (zF h1)
    cases h2 : (((shown.l.length : Nat) : Int) != ((items.l.length : Nat) : Int)) with
    | true =>
      have g2 := y0 h2
      exact zh ((r_Measured_o1 e items shown) ++ [.dec true]) (And.intro h2 (And.intro (zn I items) (And.intro (zn I shown) (And.intro h1 (And.intro (T_r_first e items (by first | assumption | omega | (with_reducible exact z9) | (with_reducible exact Nat.le_trans zb (by omega)) | (with_reducible exact Nat.le_trans zc (by omega)) | (with_reducible exact Nat.le_trans zd (by omega)) | (simp only [z8] at * <;> omega) | (simp only [z5, z6, z7, GS.nil_l, GS.some_l, List.length_set, List.length_append, List.length_cons, List.length_nil] at * <;> first | with_reducible assumption | omega) | (simp only [z5, z6, z7, GS.nil_l, GS.some_l, List.length_set, List.length_append, List.length_cons, List.length_nil, z8] at * <;> first | with_reducible assumption | omega) | (simp at * <;> omega))) trivial))))) (by kernel_rfl)
    | false =>
      have g2 := zF h2
      cases h7 : r_Measured_7 shown.l 0 with
      | x0 =>
        try dsimp only
        have p1 := (po_lr (q := lr_r_Measured_7 e items shown) (lp_r_Measured_7 e items shown shown.l 0 (List.drop_zero) (Nat.zero_le _) (by first | assumption | omega | (with_reducible exact z9) | (with_reducible exact Nat.le_trans zb (by omega)) | (with_reducible exact Nat.le_trans zc (by omega)) | (with_reducible exact Nat.le_trans zd (by omega)) | (simp only [z8] at * <;> omega) | (simp only [z5, z6, z7, GS.nil_l, GS.some_l, List.length_set, List.length_append, List.length_cons, List.length_nil] at * <;> first | with_reducible assumption | omega) | (simp only [z5, z6, z7, GS.nil_l, GS.some_l, List.length_set, List.length_append, List.length_cons, List.length_nil, z8] at * <;> first | with_reducible assumption | omega) | (simp at * <;> omega)) (by first | assumption | omega | (with_reducible exact z9) | (with_reducible exact Nat.le_trans zb (by omega)) | (with_reducible exact Nat.le_trans zc (by omega)) | (with_reducible exact Nat.le_trans zd (by omega)) | (simp only [z8] at * <;> omega) | (simp only [z5, z6, z7, GS.nil_l, GS.some_l, List.length_set, List.length_append, List.length_cons, List.length_nil] at * <;> first | with_reducible assumption | omega) | (simp only [z5, z6, z7, GS.nil_l, GS.some_l, List.length_set, List.length_append, List.length_cons, List.length_nil, z8] at * <;> first | with_reducible assumption | omega) | (simp at * <;> omega)) (by first | assumption | omega | (with_reducible exact z9) | (with_reducible exact Nat.le_trans zb (by omega)) | (with_reducible exact Nat.le_trans zc (by omega)) | (with_reducible exact Nat.le_trans zd (by omega)) | (simp only [z8] at * <;> omega) | (simp only [z5, z6, z7, GS.nil_l, GS.some_l, List.length_set, List.length_append, List.length_cons, List.length_nil] at * <;> first | with_reducible assumption | omega) | (simp only [z5, z6, z7, GS.nil_l, GS.some_l, List.length_set, List.length_append, List.length_cons, List.length_nil, z8] at * <;> first | with_reducible assumption | omega) | (simp at * <;> omega)) (by first | assumption | omega | (with_reducible exact z9) | (with_reducible exact Nat.le_trans zb (by omega)) | (with_reducible exact Nat.le_trans zc (by omega)) | (with_reducible exact Nat.le_trans zd (by omega)) | (simp only [z8] at * <;> omega) | (simp only [z5, z6, z7, GS.nil_l, GS.some_l, List.length_set, List.length_append, List.length_cons, List.length_nil] at * <;> first | with_reducible assumption | omega) | (simp only [z5, z6, z7, GS.nil_l, GS.some_l, List.length_set, List.length_append, List.length_cons, List.length_nil, z8] at * <;> first | with_reducible assumption | omega) | (simp at * <;> omega))) h7)
        have p2 := (clone86_2 e (by first | assumption | omega | (with_reducible exact z9) | (with_reducible exact Nat.le_trans zb (by omega)) | (with_reducible exact Nat.le_trans zc (by omega)) | (with_reducible exact Nat.le_trans zd (by omega)) | (simp only [z8] at * <;> omega) | (simp only [z5, z6, z7, GS.nil_l, GS.some_l, List.length_set, List.length_append, List.length_cons, List.length_nil] at * <;> first | with_reducible assumption | omega) | (simp only [z5, z6, z7, GS.nil_l, GS.some_l, List.length_set, List.length_append, List.length_cons, List.length_nil, z8] at * <;> first | with_reducible assumption | omega) | (simp at * <;> omega)) (by first | assumption | omega | (with_reducible exact z9) | (with_reducible exact Nat.le_trans zb (by omega)) | (with_reducible exact Nat.le_trans zc (by omega)) | (with_reducible exact Nat.le_trans zd (by omega)) | (simp only [z8] at * <;> omega) | (simp only [z5, z6, z7, GS.nil_l, GS.some_l, List.length_set, List.length_append, List.length_cons, List.length_nil] at * <;> first | with_reducible assumption | omega) | (simp only [z5, z6, z7, GS.nil_l, GS.some_l, List.length_set, List.length_append, List.length_cons, List.length_nil, z8] at * <;> first | with_reducible assumption | omega) | (simp at * <;> omega)))
        have p3 := (gc_of (C := cfg) (f := 42) (a := lp42_13) (ks := [1, 2, 3, 6, 10, 11]) (st := (sd81 e items shown)) (st1 := (sd82 e items shown)) (by kernel_rfl) (by (simp only [sd81, sd82, go_sem, Nat.reduceAdd, Nat.reduceEqDiff, Nat.reduceLT, Nat.reduceLeDiff, bI2, zN.idsL, zN.renL, zN.snapAll, zi.idsL, zi.renL, zi.snapAll]) <;> rfl))
        cases h8 : r_Measured_13 e shown items.l 0 e.items.l with
        | x0 v13_0 =>
          try dsimp only
          have hv_h8 := ivt_r_Measured_13 e items shown items.l 0 e.items.l (List.drop_zero) (Nat.zero_le _) (by first | assumption | omega | (with_reducible exact z9) | (with_reducible exact Nat.le_trans zb (by omega)) | (with_reducible exact Nat.le_trans zc (by omega)) | (with_reducible exact Nat.le_trans zd (by omega)) | (simp only [z8] at * <;> omega) | (simp only [z5, z6, z7, GS.nil_l, GS.some_l, List.length_set, List.length_append, List.length_cons, List.length_nil] at * <;> first | with_reducible assumption | omega) | (simp only [z5, z6, z7, GS.nil_l, GS.some_l, List.length_set, List.length_append, List.length_cons, List.length_nil, z8] at * <;> first | with_reducible assumption | omega) | (simp at * <;> omega)) (by first | assumption | omega | (with_reducible exact z9) | (with_reducible exact Nat.le_trans zb (by omega)) | (with_reducible exact Nat.le_trans zc (by omega)) | (with_reducible exact Nat.le_trans zd (by omega)) | (simp only [z8] at * <;> omega) | (simp only [z5, z6, z7, GS.nil_l, GS.some_l, List.length_set, List.length_append, List.length_cons, List.length_nil] at * <;> first | with_reducible assumption | omega) | (simp only [z5, z6, z7, GS.nil_l, GS.some_l, List.length_set, List.length_append, List.length_cons, List.length_nil, z8] at * <;> first | with_reducible assumption | omega) | (simp at * <;> omega)) (by first | assumption | omega | (with_reducible exact z9) | (with_reducible exact Nat.le_trans zb (by omega)) | (with_reducible exact Nat.le_trans zc (by omega)) | (with_reducible exact Nat.le_trans zd (by omega)) | (simp only [z8] at * <;> omega) | (simp only [z5, z6, z7, GS.nil_l, GS.some_l, List.length_set, List.length_append, List.length_cons, List.length_nil] at * <;> first | with_reducible assumption | omega) | (simp only [z5, z6, z7, GS.nil_l, GS.some_l, List.length_set, List.length_append, List.length_cons, List.length_nil, z8] at * <;> first | with_reducible assumption | omega) | (simp at * <;> omega)) (by first | assumption | omega | (with_reducible exact z9) | (with_reducible exact Nat.le_trans zb (by omega)) | (with_reducible exact Nat.le_trans zc (by omega)) | (with_reducible exact Nat.le_trans zd (by omega)) | (simp only [z8] at * <;> omega) | (simp only [z5, z6, z7, GS.nil_l, GS.some_l, List.length_set, List.length_append, List.length_cons, List.length_nil] at * <;> first | with_reducible assumption | omega) | (simp only [z5, z6, z7, GS.nil_l, GS.some_l, List.length_set, List.length_append, List.length_cons, List.length_nil, z8] at * <;> first | with_reducible assumption | omega) | (simp at * <;> omega)) (by first | assumption | omega | (with_reducible exact z9) | (with_reducible exact Nat.le_trans zb (by omega)) | (with_reducible exact Nat.le_trans zc (by omega)) | (with_reducible exact Nat.le_trans zd (by omega)) | (simp only [z8] at * <;> omega) | (simp only [z5, z6, z7, GS.nil_l, GS.some_l, List.length_set, List.length_append, List.length_cons, List.length_nil] at * <;> first | with_reducible assumption | omega) | (simp only [z5, z6, z7, GS.nil_l, GS.some_l, List.length_set, List.length_append, List.length_cons, List.length_nil, z8] at * <;> first | with_reducible assumption | omega) | (simp at * <;> omega))
          rw [h8] at hv_h8
          have hv_h8_0 := hv_h8
          try dsimp only [iv_r_Measured_13] at hv_h8_0
          have p4 := (po_lr (q := lr_r_Measured_13 e items shown) (lp_r_Measured_13 e items shown items.l 0 e.items.l (List.drop_zero) (Nat.zero_le _) (by first | assumption | omega | (with_reducible exact z9) | (with_reducible exact Nat.le_trans zb (by omega)) | (with_reducible exact Nat.le_trans zc (by omega)) | (with_reducible exact Nat.le_trans zd (by omega)) | (simp only [z8] at * <;> omega) | (simp only [z5, z6, z7, GS.nil_l, GS.some_l, List.length_set, List.length_append, List.length_cons, List.length_nil] at * <;> first | with_reducible assumption | omega) | (simp only [z5, z6, z7, GS.nil_l, GS.some_l, List.length_set, List.length_append, List.length_cons, List.length_nil, z8] at * <;> first | with_reducible assumption | omega) | (simp at * <;> omega)) (by first | assumption | omega | (with_reducible exact z9) | (with_reducible exact Nat.le_trans zb (by omega)) | (with_reducible exact Nat.le_trans zc (by omega)) | (with_reducible exact Nat.le_trans zd (by omega)) | (simp only [z8] at * <;> omega) | (simp only [z5, z6, z7, GS.nil_l, GS.some_l, List.length_set, List.length_append, List.length_cons, List.length_nil] at * <;> first | with_reducible assumption | omega) | (simp only [z5, z6, z7, GS.nil_l, GS.some_l, List.length_set, List.length_append, List.length_cons, List.length_nil, z8] at * <;> first | with_reducible assumption | omega) | (simp at * <;> omega)) (by first | assumption | omega | (with_reducible exact z9) | (with_reducible exact Nat.le_trans zb (by omega)) | (with_reducible exact Nat.le_trans zc (by omega)) | (with_reducible exact Nat.le_trans zd (by omega)) | (simp only [z8] at * <;> omega) | (simp only [z5, z6, z7, GS.nil_l, GS.some_l, List.length_set, List.length_append, List.length_cons, List.length_nil] at * <;> first | with_reducible assumption | omega) | (simp only [z5, z6, z7, GS.nil_l, GS.some_l, List.length_set, List.length_append, List.length_cons, List.length_nil, z8] at * <;> first | with_reducible assumption | omega) | (simp at * <;> omega)) (by first | assumption | omega | (with_reducible exact z9) | (with_reducible exact Nat.le_trans zb (by omega)) | (with_reducible exact Nat.le_trans zc (by omega)) | (with_reducible exact Nat.le_trans zd (by omega)) | (simp only [z8] at * <;> omega) | (simp only [z5, z6, z7, GS.nil_l, GS.some_l, List.length_set, List.length_append, List.length_cons, List.length_nil] at * <;> first | with_reducible assumption | omega) | (simp only [z5, z6, z7, GS.nil_l, GS.some_l, List.length_set, List.length_append, List.length_cons, List.length_nil, z8] at * <;> first | with_reducible assumption | omega) | (simp at * <;> omega)) (by first | assumption | omega | (with_reducible exact z9) | (with_reducible exact Nat.le_trans zb (by omega)) | (with_reducible exact Nat.le_trans zc (by omega)) | (with_reducible exact Nat.le_trans zd (by omega)) | (simp only [z8] at * <;> omega) | (simp only [z5, z6, z7, GS.nil_l, GS.some_l, List.length_set, List.length_append, List.length_cons, List.length_nil] at * <;> first | with_reducible assumption | omega) | (simp only [z5, z6, z7, GS.nil_l, GS.some_l, List.length_set, List.length_append, List.length_cons, List.length_nil, z8] at * <;> first | with_reducible assumption | omega) | (simp at * <;> omega))) h8)
          have p5 := (And.intro (show flat fuelD (B (zR (⟨GS.some v13_0, e.whole⟩ : S_Estate))) = true from (by kernel_rfl)) (And.intro (And.intro (snap_row (gO := zE [(0, ⟨[.agg [.sl e.items.nl (e.items.l.map S_Item.D) (zsl e.items.nl 4) none, I e.whole.lo, I e.whole.hi]], 3, false⟩), (1, ⟨[.agg [.sl true [] 0 none, I 0, I 0]], 3, false⟩), (2, ⟨[.agg [.lsl 3 0 e.items.l.length 4 none, I e.whole.lo, I e.whole.hi]], 3, false⟩), (3, ⟨v13_0.map S_Item.D, 4, false⟩)]) (o := 3) (len := e.items.l.length) (cap := none) (fz := false) zi v13_0 (by kernel_rfl) (by first | assumption | omega | (with_reducible exact z9) | (with_reducible exact Nat.le_trans zb (by omega)) | (with_reducible exact Nat.le_trans zc (by omega)) | (with_reducible exact Nat.le_trans zd (by omega)) | (simp only [z8] at * <;> omega) | (simp only [z5, z6, z7, GS.nil_l, GS.some_l, List.length_set, List.length_append, List.length_cons, List.length_nil] at * <;> first | with_reducible assumption | omega) | (simp only [z5, z6, z7, GS.nil_l, GS.some_l, List.length_set, List.length_append, List.length_cons, List.length_nil, z8] at * <;> first | with_reducible assumption | omega) | (simp at * <;> omega))) trivial) (T_r_Valid (⟨GS.some v13_0, e.whole⟩ : S_Estate))))
          cases h9 : (zR (⟨GS.some v13_0, e.whole⟩ : S_Estate)) with
          | true =>
            have g9 := valid_len h9
            exact po_pureS ((r_Measured_o1 e items shown) ++ ((r_Measured_o2 e items shown v13_0) ++ [.dec true])) [(3, .sl false (v13_0.map S_Item.D) 4 none, [3])] (And.intro (snap_row (gO := zE [(0, ⟨[.agg [.sl e.items.nl (e.items.l.map S_Item.D) (zsl e.items.nl 4) none, I e.whole.lo, I e.whole.hi]], 3, false⟩), (1, ⟨[.agg [.lsl 3 0 e.items.l.length 4 none, I e.whole.lo, I e.whole.hi]], 3, false⟩), (2, ⟨[.agg [.lsl 3 0 e.items.l.length 4 none, I e.whole.lo, I e.whole.hi]], 3, false⟩), (3, ⟨v13_0.map S_Item.D, 4, false⟩)]) (o := 3) (len := e.items.l.length) (cap := none) (fz := false) zi v13_0 (by kernel_rfl) (by first | assumption | omega | (with_reducible exact z9) | (with_reducible exact Nat.le_trans zb (by omega)) | (with_reducible exact Nat.le_trans zc (by omega)) | (with_reducible exact Nat.le_trans zd (by omega)) | (simp only [z8] at * <;> omega) | (simp only [z5, z6, z7, GS.nil_l, GS.some_l, List.length_set, List.length_append, List.length_cons, List.length_nil] at * <;> first | with_reducible assumption | omega) | (simp only [z5, z6, z7, GS.nil_l, GS.some_l, List.length_set, List.length_append, List.length_cons, List.length_nil, z8] at * <;> first | with_reducible assumption | omega) | (simp at * <;> omega))) (And.intro h9 (And.intro p5 (And.intro p4 (And.intro p3 (And.intro p2 (And.intro p1 (And.intro h2 (And.intro (zn I items) (And.intro (zn I shown) (And.intro h1 (And.intro (T_r_first e items (by first | assumption | omega | (with_reducible exact z9) | (with_reducible exact Nat.le_trans zb (by omega)) | (with_reducible exact Nat.le_trans zc (by omega)) | (with_reducible exact Nat.le_trans zd (by omega)) | (simp only [z8] at * <;> omega) | (simp only [z5, z6, z7, GS.nil_l, GS.some_l, List.length_set, List.length_append, List.length_cons, List.length_nil] at * <;> first | with_reducible assumption | omega) | (simp only [z5, z6, z7, GS.nil_l, GS.some_l, List.length_set, List.length_append, List.length_cons, List.length_nil, z8] at * <;> first | with_reducible assumption | omega) | (simp at * <;> omega))) trivial)))))))))))) (by kernel_rfl)
          | false =>
            exact zh ((r_Measured_o1 e items shown) ++ ((r_Measured_o2 e items shown v13_0) ++ [.dec false])) (And.intro h9 (And.intro p5 (And.intro p4 (And.intro p3 (And.intro p2 (And.intro p1 (And.intro h2 (And.intro (zn I items) (And.intro (zn I shown) (And.intro h1 (And.intro (T_r_first e items (by first | assumption | omega | (with_reducible exact z9) | (with_reducible exact Nat.le_trans zb (by omega)) | (with_reducible exact Nat.le_trans zc (by omega)) | (with_reducible exact Nat.le_trans zd (by omega)) | (simp only [z8] at * <;> omega) | (simp only [z5, z6, z7, GS.nil_l, GS.some_l, List.length_set, List.length_append, List.length_cons, List.length_nil] at * <;> first | with_reducible assumption | omega) | (simp only [z5, z6, z7, GS.nil_l, GS.some_l, List.length_set, List.length_append, List.length_cons, List.length_nil, z8] at * <;> first | with_reducible assumption | omega) | (simp at * <;> omega))) trivial))))))))))) (by kernel_rfl)
      | x1 i7 x7 =>
        try dsimp only
        exact zh ((r_Measured_o1 e items shown) ++ [.dec false, .loop .ret (sd84 e items shown i7 x7)]) (And.intro (po_lr (q := lr_r_Measured_7 e items shown) (lp_r_Measured_7 e items shown shown.l 0 (List.drop_zero) (Nat.zero_le _) (by first | assumption | omega | (with_reducible exact z9) | (with_reducible exact Nat.le_trans zb (by omega)) | (with_reducible exact Nat.le_trans zc (by omega)) | (with_reducible exact Nat.le_trans zd (by omega)) | (simp only [z8] at * <;> omega) | (simp only [z5, z6, z7, GS.nil_l, GS.some_l, List.length_set, List.length_append, List.length_cons, List.length_nil] at * <;> first | with_reducible assumption | omega) | (simp only [z5, z6, z7, GS.nil_l, GS.some_l, List.length_set, List.length_append, List.length_cons, List.length_nil, z8] at * <;> first | with_reducible assumption | omega) | (simp at * <;> omega)) (by first | assumption | omega | (with_reducible exact z9) | (with_reducible exact Nat.le_trans zb (by omega)) | (with_reducible exact Nat.le_trans zc (by omega)) | (with_reducible exact Nat.le_trans zd (by omega)) | (simp only [z8] at * <;> omega) | (simp only [z5, z6, z7, GS.nil_l, GS.some_l, List.length_set, List.length_append, List.length_cons, List.length_nil] at * <;> first | with_reducible assumption | omega) | (simp only [z5, z6, z7, GS.nil_l, GS.some_l, List.length_set, List.length_append, List.length_cons, List.length_nil, z8] at * <;> first | with_reducible assumption | omega) | (simp at * <;> omega)) (by first | assumption | omega | (with_reducible exact z9) | (with_reducible exact Nat.le_trans zb (by omega)) | (with_reducible exact Nat.le_trans zc (by omega)) | (with_reducible exact Nat.le_trans zd (by omega)) | (simp only [z8] at * <;> omega) | (simp only [z5, z6, z7, GS.nil_l, GS.some_l, List.length_set, List.length_append, List.length_cons, List.length_nil] at * <;> first | with_reducible assumption | omega) | (simp only [z5, z6, z7, GS.nil_l, GS.some_l, List.length_set, List.length_append, List.length_cons, List.length_nil, z8] at * <;> first | with_reducible assumption | omega) | (simp at * <;> omega)) (by first | assumption | omega | (with_reducible exact z9) | (with_reducible exact Nat.le_trans zb (by omega)) | (with_reducible exact Nat.le_trans zc (by omega)) | (with_reducible exact Nat.le_trans zd (by omega)) | (simp only [z8] at * <;> omega) | (simp only [z5, z6, z7, GS.nil_l, GS.some_l, List.length_set, List.length_append, List.length_cons, List.length_nil] at * <;> first | with_reducible assumption | omega) | (simp only [z5, z6, z7, GS.nil_l, GS.some_l, List.length_set, List.length_append, List.length_cons, List.length_nil, z8] at * <;> first | with_reducible assumption | omega) | (simp at * <;> omega))) h7) (And.intro h2 (And.intro (zn I items) (And.intro (zn I shown) (And.intro h1 (And.intro (T_r_first e items (by first | assumption | omega | (with_reducible exact z9) | (with_reducible exact Nat.le_trans zb (by omega)) | (with_reducible exact Nat.le_trans zc (by omega)) | (with_reducible exact Nat.le_trans zd (by omega)) | (simp only [z8] at * <;> omega) | (simp only [z5, z6, z7, GS.nil_l, GS.some_l, List.length_set, List.length_append, List.length_cons, List.length_nil] at * <;> first | with_reducible assumption | omega) | (simp only [z5, z6, z7, GS.nil_l, GS.some_l, List.length_set, List.length_append, List.length_cons, List.length_nil, z8] at * <;> first | with_reducible assumption | omega) | (simp at * <;> omega))) trivial)))))) (by kernel_rfl)
      | x2 i7 x7 =>
        try dsimp only
        exact zh ((r_Measured_o1 e items shown) ++ [.dec false, .loop .ret (sd85 e items shown i7 x7)]) (And.intro (po_lr (q := lr_r_Measured_7 e items shown) (lp_r_Measured_7 e items shown shown.l 0 (List.drop_zero) (Nat.zero_le _) (by first | assumption | omega | (with_reducible exact z9) | (with_reducible exact Nat.le_trans zb (by omega)) | (with_reducible exact Nat.le_trans zc (by omega)) | (with_reducible exact Nat.le_trans zd (by omega)) | (simp only [z8] at * <;> omega) | (simp only [z5, z6, z7, GS.nil_l, GS.some_l, List.length_set, List.length_append, List.length_cons, List.length_nil] at * <;> first | with_reducible assumption | omega) | (simp only [z5, z6, z7, GS.nil_l, GS.some_l, List.length_set, List.length_append, List.length_cons, List.length_nil, z8] at * <;> first | with_reducible assumption | omega) | (simp at * <;> omega)) (by first | assumption | omega | (with_reducible exact z9) | (with_reducible exact Nat.le_trans zb (by omega)) | (with_reducible exact Nat.le_trans zc (by omega)) | (with_reducible exact Nat.le_trans zd (by omega)) | (simp only [z8] at * <;> omega) | (simp only [z5, z6, z7, GS.nil_l, GS.some_l, List.length_set, List.length_append, List.length_cons, List.length_nil] at * <;> first | with_reducible assumption | omega) | (simp only [z5, z6, z7, GS.nil_l, GS.some_l, List.length_set, List.length_append, List.length_cons, List.length_nil, z8] at * <;> first | with_reducible assumption | omega) | (simp at * <;> omega)) (by first | assumption | omega | (with_reducible exact z9) | (with_reducible exact Nat.le_trans zb (by omega)) | (with_reducible exact Nat.le_trans zc (by omega)) | (with_reducible exact Nat.le_trans zd (by omega)) | (simp only [z8] at * <;> omega) | (simp only [z5, z6, z7, GS.nil_l, GS.some_l, List.length_set, List.length_append, List.length_cons, List.length_nil] at * <;> first | with_reducible assumption | omega) | (simp only [z5, z6, z7, GS.nil_l, GS.some_l, List.length_set, List.length_append, List.length_cons, List.length_nil, z8] at * <;> first | with_reducible assumption | omega) | (simp at * <;> omega)) (by first | assumption | omega | (with_reducible exact z9) | (with_reducible exact Nat.le_trans zb (by omega)) | (with_reducible exact Nat.le_trans zc (by omega)) | (with_reducible exact Nat.le_trans zd (by omega)) | (simp only [z8] at * <;> omega) | (simp only [z5, z6, z7, GS.nil_l, GS.some_l, List.length_set, List.length_append, List.length_cons, List.length_nil] at * <;> first | with_reducible assumption | omega) | (simp only [z5, z6, z7, GS.nil_l, GS.some_l, List.length_set, List.length_append, List.length_cons, List.length_nil, z8] at * <;> first | with_reducible assumption | omega) | (simp at * <;> omega))) h7) (And.intro h2 (And.intro (zn I items) (And.intro (zn I shown) (And.intro h1 (And.intro (T_r_first e items (by first | assumption | omega | (with_reducible exact z9) | (with_reducible exact Nat.le_trans zb (by omega)) | (with_reducible exact Nat.le_trans zc (by omega)) | (with_reducible exact Nat.le_trans zd (by omega)) | (simp only [z8] at * <;> omega) | (simp only [z5, z6, z7, GS.nil_l, GS.some_l, List.length_set, List.length_append, List.length_cons, List.length_nil] at * <;> first | with_reducible assumption | omega) | (simp only [z5, z6, z7, GS.nil_l, GS.some_l, List.length_set, List.length_append, List.length_cons, List.length_nil, z8] at * <;> first | with_reducible assumption | omega) | (simp at * <;> omega))) trivial)))))) (by kernel_rfl)

theorem closedF_len {e : S_Estate} : (zG e).1.items.l.length ≤ e.items.l.length := by
  by_cases h : (zG e).2 = 0
  · exact Nat.le_of_eq (closed_len h)
  · unfold zG at h ⊢
    cases h1 : ((zr e).2 != 0) with
    | true => simp [GS.nil]
    | false =>
      rw [h1] at h
      exfalso
      apply h
      simp only [cond_false]
theorem meas8_len {shown : GS Int} : ∀ (l : List Int) (i : Nat) (v w : List S_Item), zC shown l i v = .x0 w → w.length = v.length
  | [], _, v, w, h => by simp only [zC, LR_orders_Measured_8.x0.injEq] at h; rw [← h]
  | x :: l, i, v, w, h => by
    unfold zC at h
    rw [Bool.cond_eq_ite] at h
    split at h
    · rw [meas8_len l _ _ _ h, List.length_set]
    · cases h
theorem measF_len {e : S_Estate} {items shown : GS Int} : (zJ e items shown).1.items.l.length ≤ e.items.l.length := by
  unfold zJ
  cases (zp e items != 0) with
  | true => simp [GS.nil]
  | false =>
    cases (((shown.l.length : Nat) : Int) != ((items.l.length : Nat) : Int)) with
    | true => simp [GS.nil]
    | false =>
      cases zQ shown with
      | true => simp [GS.nil]
      | false =>
        simp only [cond_false]
        cases h : zC shown items.l 0 e.items.l with
        | x1 i x v => simp [GS.nil]
        | x0 v =>
          have := meas8_len _ _ _ _ h
          simp only []
          rw [Bool.cond_eq_ite]
          split
          · simp only [GS.some]; omega
          · simp [GS.nil]
end Go.VS
namespace Go.VS
open Go Go.Proofs
set_option maxHeartbeats 0
set_option linter.unusedSimpArgs false
set_option linter.unusedVariables false
def l_OrdersKnown (e : S_Estate) (areas : GS Int) (item : Int) (items : GS Int) (shown : GS Int) : Bool :=
  bif (l_few e (GS.some [areas, items, shown])) then
    bif ((zo e) != (r_Check e)) then
      false
    else
      bif ((zO e areas) != (r_CheckAreas e areas)) then
        false
      else
        bif (((((zr e).1).lo) == (((r_Sum e).1).lo)) && (((((zr e).1).hi) == (((r_Sum e).1).hi)) && true)) then
          bif (((zr e).2) == ((r_Sum e).2)) then
            bif (((((orders_Part e item).1).lo) == (((r_Part e item).1).lo)) && (((((orders_Part e item).1).hi) == (((r_Part e item).1).hi)) && true)) then
              bif (((orders_Part e item).2) == ((r_Part e item).2)) then
                bif (r_Same ((zG e).1) ((r_Closed e).1)) then
                  bif (((zG e).2) == ((r_Closed e).2)) then
                    bif (r_Same ((zJ e items shown).1) ((r_Measured e items shown).1)) then
                      bif (((zJ e items shown).2) == ((r_Measured e items shown).2)) then
                        true
                      else
                        false
                    else
                      false
                  else
                    false
                else
                  false
              else
                false
            else
              false
          else
            false
        else
          false
  else
    true

def l_OrdersKnown_o1 (e : S_Estate) (areas : GS Int) (items : GS Int) (shown : GS Int) : List Ora := [.pure (B true), .dec true, .pure (B (l_few e (GS.some [areas, items, shown]))), .dec true, .pure (I (zo e)), .pure (I (r_Check e))]

def l_OrdersKnown_o2 (e : S_Estate) (areas : GS Int) (item : Int) (items : GS Int) (shown : GS Int) : List Ora := [.dec false, .pure (I (zO e areas)), .pure (I (r_CheckAreas e areas)), .dec false, .pure (.tup [.agg [I (((zr e).1).lo), I (((zr e).1).hi)], I ((zr e).2)]), .pure (.tup [.agg [I (((r_Sum e).1).lo), I (((r_Sum e).1).hi)], I ((r_Sum e).2)]), .pure (.tup [.agg [I (((orders_Part e item).1).lo), I (((orders_Part e item).1).hi)], I ((orders_Part e item).2)]), .pure (.tup [.agg [I (((r_Part e item).1).lo), I (((r_Part e item).1).hi)], I ((r_Part e item).2)]), .pure (.tup [.agg [.sl (((zG e).1).items.nl) ((((zG e).1).items.l).map S_Item.D) (zsl (((zG e).1).items.nl) 4) none, I (((zG e).1).whole.lo), I (((zG e).1).whole.hi)], I ((zG e).2)]), .pure (.tup [.agg [.sl (((r_Closed e).1).items.nl) ((((r_Closed e).1).items.l).map S_Item.D) (zsl (((r_Closed e).1).items.nl) 4) none, I (((r_Closed e).1).whole.lo), I (((r_Closed e).1).whole.hi)], I ((r_Closed e).2)]), .pure (.tup [.agg [.sl (((zJ e items shown).1).items.nl) ((((zJ e items shown).1).items.l).map S_Item.D) (zsl (((zJ e items shown).1).items.nl) 4) none, I (((zJ e items shown).1).whole.lo), I (((zJ e items shown).1).whole.hi)], I ((zJ e items shown).2)]), .pure (.tup [.agg [.sl (((r_Measured e items shown).1).items.nl) ((((r_Measured e items shown).1).items.l).map S_Item.D) (zsl (((r_Measured e items shown).1).items.nl) 4) none, I (((r_Measured e items shown).1).whole.lo), I (((r_Measured e items shown).1).whole.hi)], I ((r_Measured e items shown).2)])]

def l_OrdersKnown_o3 (e : S_Estate) (items : GS Int) (shown : GS Int) : List Ora := [.dec true, .dec true, .dec true, .dec true, .pure (B (r_Same ((zG e).1) ((r_Closed e).1))), .dec true, .dec true, .pure (B (r_Same ((zJ e items shown).1) ((r_Measured e items shown).1)))]

theorem T_l_OrdersKnown (e : S_Estate) (areas : GS Int) (item : Int) (items : GS Int) (shown : GS Int) (hL : items.l.length ≤ 9223372036854775807) (hLe : e.items.l.length ≤ 9223372036854775807) (hLa : areas.l.length ≤ 9223372036854775807) (hLs : shown.l.length ≤ 9223372036854775807) : (lim cfg).pure 6 [S_Estate.D e, GS.D I 1 areas, I item, GS.D I 1 items, GS.D I 1 shown] = some (B (l_OrdersKnown e areas item items shown)) := by
  unfold l_OrdersKnown
  have p1 := (T_l_few e (GS.some [areas, items, shown]) (by first | assumption | omega | (with_reducible exact z9) | (with_reducible exact Nat.le_trans zb (by omega)) | (with_reducible exact Nat.le_trans zc (by omega)) | (with_reducible exact Nat.le_trans zd (by omega)) | (simp only [z8] at * <;> omega) | (simp only [z5, z6, z7, GS.nil_l, GS.some_l, List.length_set, List.length_append, List.length_cons, List.length_nil] at * <;> first | with_reducible assumption | omega) | (simp only [z5, z6, z7, GS.nil_l, GS.some_l, List.length_set, List.length_append, List.length_cons, List.length_nil, z8] at * <;> first | with_reducible assumption | omega) | (simp at * <;> omega)))
  cases h1 : (l_few e (GS.some [areas, items, shown])) with
  | true =>
    have g1 := few3 h1
    cases h2 : ((zo e) != (r_Check e)) with
    | true =>
      have g2 := y0 h2
      exact zh ((l_OrdersKnown_o1 e areas items shown) ++ [.dec true]) (And.intro h2 (And.intro (T_r_Check e) (And.intro (zy e) (And.intro h1 (And.intro p1 (And.intro (Eq.refl true) (And.intro sane_ok trivial))))))) (by kernel_rfl)
    | false =>
      have g2 := zF h2
      have p2 := (T_orders_CheckAreas e areas (by first | assumption | omega | (with_reducible exact z9) | (with_reducible exact Nat.le_trans zb (by omega)) | (with_reducible exact Nat.le_trans zc (by omega)) | (with_reducible exact Nat.le_trans zd (by omega)) | (simp only [z8] at * <;> omega) | (simp only [z5, z6, z7, GS.nil_l, GS.some_l, List.length_set, List.length_append, List.length_cons, List.length_nil] at * <;> first | with_reducible assumption | omega) | (simp only [z5, z6, z7, GS.nil_l, GS.some_l, List.length_set, List.length_append, List.length_cons, List.length_nil, z8] at * <;> first | with_reducible assumption | omega) | (simp at * <;> omega)))
      cases h3 : ((zO e areas) != (r_CheckAreas e areas)) with
      | true =>
        have g3 := y0 h3
        exact zh ((l_OrdersKnown_o1 e areas items shown) ++ [.dec false, .pure (I (zO e areas)), .pure (I (r_CheckAreas e areas)), .dec true]) (And.intro h3 (And.intro (T_r_CheckAreas e areas (by first | assumption | omega | (with_reducible exact z9) | (with_reducible exact Nat.le_trans zb (by omega)) | (with_reducible exact Nat.le_trans zc (by omega)) | (with_reducible exact Nat.le_trans zd (by omega)) | (simp only [z8] at * <;> omega) | (simp only [z5, z6, z7, GS.nil_l, GS.some_l, List.length_set, List.length_append, List.length_cons, List.length_nil] at * <;> first | with_reducible assumption | omega) | (simp only [z5, z6, z7, GS.nil_l, GS.some_l, List.length_set, List.length_append, List.length_cons, List.length_nil, z8] at * <;> first | with_reducible assumption | omega) | (simp at * <;> omega))) (And.intro p2 (And.intro h2 (And.intro (T_r_Check e) (And.intro (zy e) (And.intro h1 (And.intro p1 (And.intro (Eq.refl true) (And.intro sane_ok trivial)))))))))) (by kernel_rfl)
      | false =>
        have g3 := zF h3
        have p3 := (T_orders_Measured e items shown (by first | assumption | omega | (with_reducible exact z9) | (with_reducible exact Nat.le_trans zb (by omega)) | (with_reducible exact Nat.le_trans zc (by omega)) | (with_reducible exact Nat.le_trans zd (by omega)) | (simp only [z8] at * <;> omega) | (simp only [z5, z6, z7, GS.nil_l, GS.some_l, List.length_set, List.length_append, List.length_cons, List.length_nil] at * <;> first | with_reducible assumption | omega) | (simp only [z5, z6, z7, GS.nil_l, GS.some_l, List.length_set, List.length_append, List.length_cons, List.length_nil, z8] at * <;> first | with_reducible assumption | omega) | (simp at * <;> omega)) (by first | assumption | omega | (with_reducible exact z9) | (with_reducible exact Nat.le_trans zb (by omega)) | (with_reducible exact Nat.le_trans zc (by omega)) | (with_reducible exact Nat.le_trans zd (by omega)) | (simp only [z8] at * <;> omega) | (simp only [z5, z6, z7, GS.nil_l, GS.some_l, List.length_set, List.length_append, List.length_cons, List.length_nil] at * <;> first | with_reducible assumption | omega) | (simp only [z5, z6, z7, GS.nil_l, GS.some_l, List.length_set, List.length_append, List.length_cons, List.length_nil, z8] at * <;> first | with_reducible assumption | omega) | (simp at * <;> omega)))
        have p4 := (T_r_Measured e items shown (by first | assumption | omega | (with_reducible exact z9) | (with_reducible exact Nat.le_trans zb (by omega)) | (with_reducible exact Nat.le_trans zc (by omega)) | (with_reducible exact Nat.le_trans zd (by omega)) | (simp only [z8] at * <;> omega) | (simp only [z5, z6, z7, GS.nil_l, GS.some_l, List.length_set, List.length_append, List.length_cons, List.length_nil] at * <;> first | with_reducible assumption | omega) | (simp only [z5, z6, z7, GS.nil_l, GS.some_l, List.length_set, List.length_append, List.length_cons, List.length_nil, z8] at * <;> first | with_reducible assumption | omega) | (simp at * <;> omega)) (by first | assumption | omega | (with_reducible exact z9) | (with_reducible exact Nat.le_trans zb (by omega)) | (with_reducible exact Nat.le_trans zc (by omega)) | (with_reducible exact Nat.le_trans zd (by omega)) | (simp only [z8] at * <;> omega) | (simp only [z5, z6, z7, GS.nil_l, GS.some_l, List.length_set, List.length_append, List.length_cons, List.length_nil] at * <;> first | with_reducible assumption | omega) | (simp only [z5, z6, z7, GS.nil_l, GS.some_l, List.length_set, List.length_append, List.length_cons, List.length_nil, z8] at * <;> first | with_reducible assumption | omega) | (simp at * <;> omega)))
        cases h4 : (((((zr e).1).lo) == (((r_Sum e).1).lo)) && (((((zr e).1).hi) == (((r_Sum e).1).hi)) && true)) with
        | true =>
          cases h5 : (((zr e).2) == ((r_Sum e).2)) with
          | true =>
            have g5 := eq_of_beq h5
            cases h6 : (((((orders_Part e item).1).lo) == (((r_Part e item).1).lo)) && (((((orders_Part e item).1).hi) == (((r_Part e item).1).hi)) && true)) with
            | true =>
              cases h7 : (((orders_Part e item).2) == ((r_Part e item).2)) with
              | true =>
                have g7 := eq_of_beq h7
                have p5 := (T_r_Same ((zG e).1) ((r_Closed e).1) (Nat.le_trans closedF_len (by omega)))
                cases h8 : (r_Same ((zG e).1) ((r_Closed e).1)) with
                | true =>
                  cases h9 : (((zG e).2) == ((r_Closed e).2)) with
                  | true =>
                    have g9 := eq_of_beq h9
                    have p6 := (T_r_Same ((zJ e items shown).1) ((r_Measured e items shown).1) (Nat.le_trans measF_len (by omega)))
                    cases h10 : (r_Same ((zJ e items shown).1) ((r_Measured e items shown).1)) with
                    | true =>
                      cases h11 : (((zJ e items shown).2) == ((r_Measured e items shown).2)) with
                      | true =>
                        have g11 := eq_of_beq h11
                        exact zh ((l_OrdersKnown_o1 e areas items shown) ++ ((l_OrdersKnown_o2 e areas item items shown) ++ ((l_OrdersKnown_o3 e items shown) ++ [.dec true, .dec true]))) (And.intro h11 (And.intro h10 (And.intro p6 (And.intro h9 (And.intro h8 (And.intro p5 (And.intro h7 (And.intro h6 (And.intro h5 (And.intro h4 (And.intro p4 (And.intro p3 (And.intro (T_r_Closed e (by first | assumption | omega | (with_reducible exact z9) | (with_reducible exact Nat.le_trans zb (by omega)) | (with_reducible exact Nat.le_trans zc (by omega)) | (with_reducible exact Nat.le_trans zd (by omega)) | (simp only [z8] at * <;> omega) | (simp only [z5, z6, z7, GS.nil_l, GS.some_l, List.length_set, List.length_append, List.length_cons, List.length_nil] at * <;> first | with_reducible assumption | omega) | (simp only [z5, z6, z7, GS.nil_l, GS.some_l, List.length_set, List.length_append, List.length_cons, List.length_nil, z8] at * <;> first | with_reducible assumption | omega) | (simp at * <;> omega))) (And.intro (T_orders_Closed e) (And.intro (T_r_Part e item (by first | assumption | omega | (with_reducible exact z9) | (with_reducible exact Nat.le_trans zb (by omega)) | (with_reducible exact Nat.le_trans zc (by omega)) | (with_reducible exact Nat.le_trans zd (by omega)) | (simp only [z8] at * <;> omega) | (simp only [z5, z6, z7, GS.nil_l, GS.some_l, List.length_set, List.length_append, List.length_cons, List.length_nil] at * <;> first | with_reducible assumption | omega) | (simp only [z5, z6, z7, GS.nil_l, GS.some_l, List.length_set, List.length_append, List.length_cons, List.length_nil, z8] at * <;> first | with_reducible assumption | omega) | (simp at * <;> omega))) (And.intro (T_orders_Part e item (by first | assumption | omega | (with_reducible exact z9) | (with_reducible exact Nat.le_trans zb (by omega)) | (with_reducible exact Nat.le_trans zc (by omega)) | (with_reducible exact Nat.le_trans zd (by omega)) | (simp only [z8] at * <;> omega) | (simp only [z5, z6, z7, GS.nil_l, GS.some_l, List.length_set, List.length_append, List.length_cons, List.length_nil] at * <;> first | with_reducible assumption | omega) | (simp only [z5, z6, z7, GS.nil_l, GS.some_l, List.length_set, List.length_append, List.length_cons, List.length_nil, z8] at * <;> first | with_reducible assumption | omega) | (simp at * <;> omega))) (And.intro (T_r_Sum e (by first | assumption | omega | (with_reducible exact z9) | (with_reducible exact Nat.le_trans zb (by omega)) | (with_reducible exact Nat.le_trans zc (by omega)) | (with_reducible exact Nat.le_trans zd (by omega)) | (simp only [z8] at * <;> omega) | (simp only [z5, z6, z7, GS.nil_l, GS.some_l, List.length_set, List.length_append, List.length_cons, List.length_nil] at * <;> first | with_reducible assumption | omega) | (simp only [z5, z6, z7, GS.nil_l, GS.some_l, List.length_set, List.length_append, List.length_cons, List.length_nil, z8] at * <;> first | with_reducible assumption | omega) | (simp at * <;> omega))) (And.intro (T_orders_Sum e) (And.intro h3 (And.intro (T_r_CheckAreas e areas (by first | assumption | omega | (with_reducible exact z9) | (with_reducible exact Nat.le_trans zb (by omega)) | (with_reducible exact Nat.le_trans zc (by omega)) | (with_reducible exact Nat.le_trans zd (by omega)) | (simp only [z8] at * <;> omega) | (simp only [z5, z6, z7, GS.nil_l, GS.some_l, List.length_set, List.length_append, List.length_cons, List.length_nil] at * <;> first | with_reducible assumption | omega) | (simp only [z5, z6, z7, GS.nil_l, GS.some_l, List.length_set, List.length_append, List.length_cons, List.length_nil, z8] at * <;> first | with_reducible assumption | omega) | (simp at * <;> omega))) (And.intro p2 (And.intro h2 (And.intro (T_r_Check e) (And.intro (zy e) (And.intro h1 (And.intro p1 (And.intro (Eq.refl true) (And.intro sane_ok trivial)))))))))))))))))))))))))))) (by kernel_rfl)
                      | false =>
                        have g11 := ne_of_beq_false h11
                        exact zh ((l_OrdersKnown_o1 e areas items shown) ++ ((l_OrdersKnown_o2 e areas item items shown) ++ ((l_OrdersKnown_o3 e items shown) ++ [.dec true, .dec false]))) (And.intro h11 (And.intro h10 (And.intro p6 (And.intro h9 (And.intro h8 (And.intro p5 (And.intro h7 (And.intro h6 (And.intro h5 (And.intro h4 (And.intro p4 (And.intro p3 (And.intro (T_r_Closed e (by first | assumption | omega | (with_reducible exact z9) | (with_reducible exact Nat.le_trans zb (by omega)) | (with_reducible exact Nat.le_trans zc (by omega)) | (with_reducible exact Nat.le_trans zd (by omega)) | (simp only [z8] at * <;> omega) | (simp only [z5, z6, z7, GS.nil_l, GS.some_l, List.length_set, List.length_append, List.length_cons, List.length_nil] at * <;> first | with_reducible assumption | omega) | (simp only [z5, z6, z7, GS.nil_l, GS.some_l, List.length_set, List.length_append, List.length_cons, List.length_nil, z8] at * <;> first | with_reducible assumption | omega) | (simp at * <;> omega))) (And.intro (T_orders_Closed e) (And.intro (T_r_Part e item (by first | assumption | omega | (with_reducible exact z9) | (with_reducible exact Nat.le_trans zb (by omega)) | (with_reducible exact Nat.le_trans zc (by omega)) | (with_reducible exact Nat.le_trans zd (by omega)) | (simp only [z8] at * <;> omega) | (simp only [z5, z6, z7, GS.nil_l, GS.some_l, List.length_set, List.length_append, List.length_cons, List.length_nil] at * <;> first | with_reducible assumption | omega) | (simp only [z5, z6, z7, GS.nil_l, GS.some_l, List.length_set, List.length_append, List.length_cons, List.length_nil, z8] at * <;> first | with_reducible assumption | omega) | (simp at * <;> omega))) (And.intro (T_orders_Part e item (by first | assumption | omega | (with_reducible exact z9) | (with_reducible exact Nat.le_trans zb (by omega)) | (with_reducible exact Nat.le_trans zc (by omega)) | (with_reducible exact Nat.le_trans zd (by omega)) | (simp only [z8] at * <;> omega) | (simp only [z5, z6, z7, GS.nil_l, GS.some_l, List.length_set, List.length_append, List.length_cons, List.length_nil] at * <;> first | with_reducible assumption | omega) | (simp only [z5, z6, z7, GS.nil_l, GS.some_l, List.length_set, List.length_append, List.length_cons, List.length_nil, z8] at * <;> first | with_reducible assumption | omega) | (simp at * <;> omega))) (And.intro (T_r_Sum e (by first | assumption | omega | (with_reducible exact z9) | (with_reducible exact Nat.le_trans zb (by omega)) | (with_reducible exact Nat.le_trans zc (by omega)) | (with_reducible exact Nat.le_trans zd (by omega)) | (simp only [z8] at * <;> omega) | (simp only [z5, z6, z7, GS.nil_l, GS.some_l, List.length_set, List.length_append, List.length_cons, List.length_nil] at * <;> first | with_reducible assumption | omega) | (simp only [z5, z6, z7, GS.nil_l, GS.some_l, List.length_set, List.length_append, List.length_cons, List.length_nil, z8] at * <;> first | with_reducible assumption | omega) | (simp at * <;> omega))) (And.intro (T_orders_Sum e) (And.intro h3 (And.intro (T_r_CheckAreas e areas (by first | assumption | omega | (with_reducible exact z9) | (with_reducible exact Nat.le_trans zb (by omega)) | (with_reducible exact Nat.le_trans zc (by omega)) | (with_reducible exact Nat.le_trans zd (by omega)) | (simp only [z8] at * <;> omega) | (simp only [z5, z6, z7, GS.nil_l, GS.some_l, List.length_set, List.length_append, List.length_cons, List.length_nil] at * <;> first | with_reducible assumption | omega) | (simp only [z5, z6, z7, GS.nil_l, GS.some_l, List.length_set, List.length_append, List.length_cons, List.length_nil, z8] at * <;> first | with_reducible assumption | omega) | (simp at * <;> omega))) (And.intro p2 (And.intro h2 (And.intro (T_r_Check e) (And.intro (zy e) (And.intro h1 (And.intro p1 (And.intro (Eq.refl true) (And.intro sane_ok trivial)))))))))))))))))))))))))))) (by kernel_rfl)
                    | false =>
                      exact zh ((l_OrdersKnown_o1 e areas items shown) ++ ((l_OrdersKnown_o2 e areas item items shown) ++ ((l_OrdersKnown_o3 e items shown) ++ [.dec false]))) (And.intro h10 (And.intro p6 (And.intro h9 (And.intro h8 (And.intro p5 (And.intro h7 (And.intro h6 (And.intro h5 (And.intro h4 (And.intro p4 (And.intro p3 (And.intro (T_r_Closed e (by first | assumption | omega | (with_reducible exact z9) | (with_reducible exact Nat.le_trans zb (by omega)) | (with_reducible exact Nat.le_trans zc (by omega)) | (with_reducible exact Nat.le_trans zd (by omega)) | (simp only [z8] at * <;> omega) | (simp only [z5, z6, z7, GS.nil_l, GS.some_l, List.length_set, List.length_append, List.length_cons, List.length_nil] at * <;> first | with_reducible assumption | omega) | (simp only [z5, z6, z7, GS.nil_l, GS.some_l, List.length_set, List.length_append, List.length_cons, List.length_nil, z8] at * <;> first | with_reducible assumption | omega) | (simp at * <;> omega))) (And.intro (T_orders_Closed e) (And.intro (T_r_Part e item (by first | assumption | omega | (with_reducible exact z9) | (with_reducible exact Nat.le_trans zb (by omega)) | (with_reducible exact Nat.le_trans zc (by omega)) | (with_reducible exact Nat.le_trans zd (by omega)) | (simp only [z8] at * <;> omega) | (simp only [z5, z6, z7, GS.nil_l, GS.some_l, List.length_set, List.length_append, List.length_cons, List.length_nil] at * <;> first | with_reducible assumption | omega) | (simp only [z5, z6, z7, GS.nil_l, GS.some_l, List.length_set, List.length_append, List.length_cons, List.length_nil, z8] at * <;> first | with_reducible assumption | omega) | (simp at * <;> omega))) (And.intro (T_orders_Part e item (by first | assumption | omega | (with_reducible exact z9) | (with_reducible exact Nat.le_trans zb (by omega)) | (with_reducible exact Nat.le_trans zc (by omega)) | (with_reducible exact Nat.le_trans zd (by omega)) | (simp only [z8] at * <;> omega) | (simp only [z5, z6, z7, GS.nil_l, GS.some_l, List.length_set, List.length_append, List.length_cons, List.length_nil] at * <;> first | with_reducible assumption | omega) | (simp only [z5, z6, z7, GS.nil_l, GS.some_l, List.length_set, List.length_append, List.length_cons, List.length_nil, z8] at * <;> first | with_reducible assumption | omega) | (simp at * <;> omega))) (And.intro (T_r_Sum e (by first | assumption | omega | (with_reducible exact z9) | (with_reducible exact Nat.le_trans zb (by omega)) | (with_reducible exact Nat.le_trans zc (by omega)) | (with_reducible exact Nat.le_trans zd (by omega)) | (simp only [z8] at * <;> omega) | (simp only [z5, z6, z7, GS.nil_l, GS.some_l, List.length_set, List.length_append, List.length_cons, List.length_nil] at * <;> first | with_reducible assumption | omega) | (simp only [z5, z6, z7, GS.nil_l, GS.some_l, List.length_set, List.length_append, List.length_cons, List.length_nil, z8] at * <;> first | with_reducible assumption | omega) | (simp at * <;> omega))) (And.intro (T_orders_Sum e) (And.intro h3 (And.intro (T_r_CheckAreas e areas (by first | assumption | omega | (with_reducible exact z9) | (with_reducible exact Nat.le_trans zb (by omega)) | (with_reducible exact Nat.le_trans zc (by omega)) | (with_reducible exact Nat.le_trans zd (by omega)) | (simp only [z8] at * <;> omega) | (simp only [z5, z6, z7, GS.nil_l, GS.some_l, List.length_set, List.length_append, List.length_cons, List.length_nil] at * <;> first | with_reducible assumption | omega) | (simp only [z5, z6, z7, GS.nil_l, GS.some_l, List.length_set, List.length_append, List.length_cons, List.length_nil, z8] at * <;> first | with_reducible assumption | omega) | (simp at * <;> omega))) (And.intro p2 (And.intro h2 (And.intro (T_r_Check e) (And.intro (zy e) (And.intro h1 (And.intro p1 (And.intro (Eq.refl true) (And.intro sane_ok trivial))))))))))))))))))))))))))) (by kernel_rfl)
                  | false =>
                    have g9 := ne_of_beq_false h9
                    exact zh ((l_OrdersKnown_o1 e areas items shown) ++ ((l_OrdersKnown_o2 e areas item items shown) ++ [.dec true, .dec true, .dec true, .dec true, .pure (B (r_Same ((zG e).1) ((r_Closed e).1))), .dec true, .dec false])) (And.intro h9 (And.intro h8 (And.intro p5 (And.intro h7 (And.intro h6 (And.intro h5 (And.intro h4 (And.intro p4 (And.intro p3 (And.intro (T_r_Closed e (by first | assumption | omega | (with_reducible exact z9) | (with_reducible exact Nat.le_trans zb (by omega)) | (with_reducible exact Nat.le_trans zc (by omega)) | (with_reducible exact Nat.le_trans zd (by omega)) | (simp only [z8] at * <;> omega) | (simp only [z5, z6, z7, GS.nil_l, GS.some_l, List.length_set, List.length_append, List.length_cons, List.length_nil] at * <;> first | with_reducible assumption | omega) | (simp only [z5, z6, z7, GS.nil_l, GS.some_l, List.length_set, List.length_append, List.length_cons, List.length_nil, z8] at * <;> first | with_reducible assumption | omega) | (simp at * <;> omega))) (And.intro (T_orders_Closed e) (And.intro (T_r_Part e item (by first | assumption | omega | (with_reducible exact z9) | (with_reducible exact Nat.le_trans zb (by omega)) | (with_reducible exact Nat.le_trans zc (by omega)) | (with_reducible exact Nat.le_trans zd (by omega)) | (simp only [z8] at * <;> omega) | (simp only [z5, z6, z7, GS.nil_l, GS.some_l, List.length_set, List.length_append, List.length_cons, List.length_nil] at * <;> first | with_reducible assumption | omega) | (simp only [z5, z6, z7, GS.nil_l, GS.some_l, List.length_set, List.length_append, List.length_cons, List.length_nil, z8] at * <;> first | with_reducible assumption | omega) | (simp at * <;> omega))) (And.intro (T_orders_Part e item (by first | assumption | omega | (with_reducible exact z9) | (with_reducible exact Nat.le_trans zb (by omega)) | (with_reducible exact Nat.le_trans zc (by omega)) | (with_reducible exact Nat.le_trans zd (by omega)) | (simp only [z8] at * <;> omega) | (simp only [z5, z6, z7, GS.nil_l, GS.some_l, List.length_set, List.length_append, List.length_cons, List.length_nil] at * <;> first | with_reducible assumption | omega) | (simp only [z5, z6, z7, GS.nil_l, GS.some_l, List.length_set, List.length_append, List.length_cons, List.length_nil, z8] at * <;> first | with_reducible assumption | omega) | (simp at * <;> omega))) (And.intro (T_r_Sum e (by first | assumption | omega | (with_reducible exact z9) | (with_reducible exact Nat.le_trans zb (by omega)) | (with_reducible exact Nat.le_trans zc (by omega)) | (with_reducible exact Nat.le_trans zd (by omega)) | (simp only [z8] at * <;> omega) | (simp only [z5, z6, z7, GS.nil_l, GS.some_l, List.length_set, List.length_append, List.length_cons, List.length_nil] at * <;> first | with_reducible assumption | omega) | (simp only [z5, z6, z7, GS.nil_l, GS.some_l, List.length_set, List.length_append, List.length_cons, List.length_nil, z8] at * <;> first | with_reducible assumption | omega) | (simp at * <;> omega))) (And.intro (T_orders_Sum e) (And.intro h3 (And.intro (T_r_CheckAreas e areas (by first | assumption | omega | (with_reducible exact z9) | (with_reducible exact Nat.le_trans zb (by omega)) | (with_reducible exact Nat.le_trans zc (by omega)) | (with_reducible exact Nat.le_trans zd (by omega)) | (simp only [z8] at * <;> omega) | (simp only [z5, z6, z7, GS.nil_l, GS.some_l, List.length_set, List.length_append, List.length_cons, List.length_nil] at * <;> first | with_reducible assumption | omega) | (simp only [z5, z6, z7, GS.nil_l, GS.some_l, List.length_set, List.length_append, List.length_cons, List.length_nil, z8] at * <;> first | with_reducible assumption | omega) | (simp at * <;> omega))) (And.intro p2 (And.intro h2 (And.intro (T_r_Check e) (And.intro (zy e) (And.intro h1 (And.intro p1 (And.intro (Eq.refl true) (And.intro sane_ok trivial))))))))))))))))))))))))) (by kernel_rfl)
                | false =>
                  exact zh ((l_OrdersKnown_o1 e areas items shown) ++ ((l_OrdersKnown_o2 e areas item items shown) ++ [.dec true, .dec true, .dec true, .dec true, .pure (B (r_Same ((zG e).1) ((r_Closed e).1))), .dec false])) (And.intro h8 (And.intro p5 (And.intro h7 (And.intro h6 (And.intro h5 (And.intro h4 (And.intro p4 (And.intro p3 (And.intro (T_r_Closed e (by first | assumption | omega | (with_reducible exact z9) | (with_reducible exact Nat.le_trans zb (by omega)) | (with_reducible exact Nat.le_trans zc (by omega)) | (with_reducible exact Nat.le_trans zd (by omega)) | (simp only [z8] at * <;> omega) | (simp only [z5, z6, z7, GS.nil_l, GS.some_l, List.length_set, List.length_append, List.length_cons, List.length_nil] at * <;> first | with_reducible assumption | omega) | (simp only [z5, z6, z7, GS.nil_l, GS.some_l, List.length_set, List.length_append, List.length_cons, List.length_nil, z8] at * <;> first | with_reducible assumption | omega) | (simp at * <;> omega))) (And.intro (T_orders_Closed e) (And.intro (T_r_Part e item (by first | assumption | omega | (with_reducible exact z9) | (with_reducible exact Nat.le_trans zb (by omega)) | (with_reducible exact Nat.le_trans zc (by omega)) | (with_reducible exact Nat.le_trans zd (by omega)) | (simp only [z8] at * <;> omega) | (simp only [z5, z6, z7, GS.nil_l, GS.some_l, List.length_set, List.length_append, List.length_cons, List.length_nil] at * <;> first | with_reducible assumption | omega) | (simp only [z5, z6, z7, GS.nil_l, GS.some_l, List.length_set, List.length_append, List.length_cons, List.length_nil, z8] at * <;> first | with_reducible assumption | omega) | (simp at * <;> omega))) (And.intro (T_orders_Part e item (by first | assumption | omega | (with_reducible exact z9) | (with_reducible exact Nat.le_trans zb (by omega)) | (with_reducible exact Nat.le_trans zc (by omega)) | (with_reducible exact Nat.le_trans zd (by omega)) | (simp only [z8] at * <;> omega) | (simp only [z5, z6, z7, GS.nil_l, GS.some_l, List.length_set, List.length_append, List.length_cons, List.length_nil] at * <;> first | with_reducible assumption | omega) | (simp only [z5, z6, z7, GS.nil_l, GS.some_l, List.length_set, List.length_append, List.length_cons, List.length_nil, z8] at * <;> first | with_reducible assumption | omega) | (simp at * <;> omega))) (And.intro (T_r_Sum e (by first | assumption | omega | (with_reducible exact z9) | (with_reducible exact Nat.le_trans zb (by omega)) | (with_reducible exact Nat.le_trans zc (by omega)) | (with_reducible exact Nat.le_trans zd (by omega)) | (simp only [z8] at * <;> omega) | (simp only [z5, z6, z7, GS.nil_l, GS.some_l, List.length_set, List.length_append, List.length_cons, List.length_nil] at * <;> first | with_reducible assumption | omega) | (simp only [z5, z6, z7, GS.nil_l, GS.some_l, List.length_set, List.length_append, List.length_cons, List.length_nil, z8] at * <;> first | with_reducible assumption | omega) | (simp at * <;> omega))) (And.intro (T_orders_Sum e) (And.intro h3 (And.intro (T_r_CheckAreas e areas (by first | assumption | omega | (with_reducible exact z9) | (with_reducible exact Nat.le_trans zb (by omega)) | (with_reducible exact Nat.le_trans zc (by omega)) | (with_reducible exact Nat.le_trans zd (by omega)) | (simp only [z8] at * <;> omega) | (simp only [z5, z6, z7, GS.nil_l, GS.some_l, List.length_set, List.length_append, List.length_cons, List.length_nil] at * <;> first | with_reducible assumption | omega) | (simp only [z5, z6, z7, GS.nil_l, GS.some_l, List.length_set, List.length_append, List.length_cons, List.length_nil, z8] at * <;> first | with_reducible assumption | omega) | (simp at * <;> omega))) (And.intro p2 (And.intro h2 (And.intro (T_r_Check e) (And.intro (zy e) (And.intro h1 (And.intro p1 (And.intro (Eq.refl true) (And.intro sane_ok trivial)))))))))))))))))))))))) (by kernel_rfl)
              | false =>
                have g7 := ne_of_beq_false h7
                exact zh ((l_OrdersKnown_o1 e areas items shown) ++ ((l_OrdersKnown_o2 e areas item items shown) ++ [.dec true, .dec true, .dec true, .dec false])) (And.intro h7 (And.intro h6 (And.intro h5 (And.intro h4 (And.intro p4 (And.intro p3 (And.intro (T_r_Closed e (by first | assumption | omega | (with_reducible exact z9) | (with_reducible exact Nat.le_trans zb (by omega)) | (with_reducible exact Nat.le_trans zc (by omega)) | (with_reducible exact Nat.le_trans zd (by omega)) | (simp only [z8] at * <;> omega) | (simp only [z5, z6, z7, GS.nil_l, GS.some_l, List.length_set, List.length_append, List.length_cons, List.length_nil] at * <;> first | with_reducible assumption | omega) | (simp only [z5, z6, z7, GS.nil_l, GS.some_l, List.length_set, List.length_append, List.length_cons, List.length_nil, z8] at * <;> first | with_reducible assumption | omega) | (simp at * <;> omega))) (And.intro (T_orders_Closed e) (And.intro (T_r_Part e item (by first | assumption | omega | (with_reducible exact z9) | (with_reducible exact Nat.le_trans zb (by omega)) | (with_reducible exact Nat.le_trans zc (by omega)) | (with_reducible exact Nat.le_trans zd (by omega)) | (simp only [z8] at * <;> omega) | (simp only [z5, z6, z7, GS.nil_l, GS.some_l, List.length_set, List.length_append, List.length_cons, List.length_nil] at * <;> first | with_reducible assumption | omega) | (simp only [z5, z6, z7, GS.nil_l, GS.some_l, List.length_set, List.length_append, List.length_cons, List.length_nil, z8] at * <;> first | with_reducible assumption | omega) | (simp at * <;> omega))) (And.intro (T_orders_Part e item (by first | assumption | omega | (with_reducible exact z9) | (with_reducible exact Nat.le_trans zb (by omega)) | (with_reducible exact Nat.le_trans zc (by omega)) | (with_reducible exact Nat.le_trans zd (by omega)) | (simp only [z8] at * <;> omega) | (simp only [z5, z6, z7, GS.nil_l, GS.some_l, List.length_set, List.length_append, List.length_cons, List.length_nil] at * <;> first | with_reducible assumption | omega) | (simp only [z5, z6, z7, GS.nil_l, GS.some_l, List.length_set, List.length_append, List.length_cons, List.length_nil, z8] at * <;> first | with_reducible assumption | omega) | (simp at * <;> omega))) (And.intro (T_r_Sum e (by first | assumption | omega | (with_reducible exact z9) | (with_reducible exact Nat.le_trans zb (by omega)) | (with_reducible exact Nat.le_trans zc (by omega)) | (with_reducible exact Nat.le_trans zd (by omega)) | (simp only [z8] at * <;> omega) | (simp only [z5, z6, z7, GS.nil_l, GS.some_l, List.length_set, List.length_append, List.length_cons, List.length_nil] at * <;> first | with_reducible assumption | omega) | (simp only [z5, z6, z7, GS.nil_l, GS.some_l, List.length_set, List.length_append, List.length_cons, List.length_nil, z8] at * <;> first | with_reducible assumption | omega) | (simp at * <;> omega))) (And.intro (T_orders_Sum e) (And.intro h3 (And.intro (T_r_CheckAreas e areas (by first | assumption | omega | (with_reducible exact z9) | (with_reducible exact Nat.le_trans zb (by omega)) | (with_reducible exact Nat.le_trans zc (by omega)) | (with_reducible exact Nat.le_trans zd (by omega)) | (simp only [z8] at * <;> omega) | (simp only [z5, z6, z7, GS.nil_l, GS.some_l, List.length_set, List.length_append, List.length_cons, List.length_nil] at * <;> first | with_reducible assumption | omega) | (simp only [z5, z6, z7, GS.nil_l, GS.some_l, List.length_set, List.length_append, List.length_cons, List.length_nil, z8] at * <;> first | with_reducible assumption | omega) | (simp at * <;> omega))) (And.intro p2 (And.intro h2 (And.intro (T_r_Check e) (And.intro (zy e) (And.intro h1 (And.intro p1 (And.intro (Eq.refl true) (And.intro sane_ok trivial)))))))))))))))))))))) (by kernel_rfl)
            | false =>
              exact zh ((l_OrdersKnown_o1 e areas items shown) ++ ((l_OrdersKnown_o2 e areas item items shown) ++ [.dec true, .dec true, .dec false])) (And.intro h6 (And.intro h5 (And.intro h4 (And.intro p4 (And.intro p3 (And.intro (T_r_Closed e (by first | assumption | omega | (with_reducible exact z9) | (with_reducible exact Nat.le_trans zb (by omega)) | (with_reducible exact Nat.le_trans zc (by omega)) | (with_reducible exact Nat.le_trans zd (by omega)) | (simp only [z8] at * <;> omega) | (simp only [z5, z6, z7, GS.nil_l, GS.some_l, List.length_set, List.length_append, List.length_cons, List.length_nil] at * <;> first | with_reducible assumption | omega) | (simp only [z5, z6, z7, GS.nil_l, GS.some_l, List.length_set, List.length_append, List.length_cons, List.length_nil, z8] at * <;> first | with_reducible assumption | omega) | (simp at * <;> omega))) (And.intro (T_orders_Closed e) (And.intro (T_r_Part e item (by first | assumption | omega | (with_reducible exact z9) | (with_reducible exact Nat.le_trans zb (by omega)) | (with_reducible exact Nat.le_trans zc (by omega)) | (with_reducible exact Nat.le_trans zd (by omega)) | (simp only [z8] at * <;> omega) | (simp only [z5, z6, z7, GS.nil_l, GS.some_l, List.length_set, List.length_append, List.length_cons, List.length_nil] at * <;> first | with_reducible assumption | omega) | (simp only [z5, z6, z7, GS.nil_l, GS.some_l, List.length_set, List.length_append, List.length_cons, List.length_nil, z8] at * <;> first | with_reducible assumption | omega) | (simp at * <;> omega))) (And.intro (T_orders_Part e item (by first | assumption | omega | (with_reducible exact z9) | (with_reducible exact Nat.le_trans zb (by omega)) | (with_reducible exact Nat.le_trans zc (by omega)) | (with_reducible exact Nat.le_trans zd (by omega)) | (simp only [z8] at * <;> omega) | (simp only [z5, z6, z7, GS.nil_l, GS.some_l, List.length_set, List.length_append, List.length_cons, List.length_nil] at * <;> first | with_reducible assumption | omega) | (simp only [z5, z6, z7, GS.nil_l, GS.some_l, List.length_set, List.length_append, List.length_cons, List.length_nil, z8] at * <;> first | with_reducible assumption | omega) | (simp at * <;> omega))) (And.intro (T_r_Sum e (by first | assumption | omega | (with_reducible exact z9) | (with_reducible exact Nat.le_trans zb (by omega)) | (with_reducible exact Nat.le_trans zc (by omega)) | (with_reducible exact Nat.le_trans zd (by omega)) | (simp only [z8] at * <;> omega) | (simp only [z5, z6, z7, GS.nil_l, GS.some_l, List.length_set, List.length_append, List.length_cons, List.length_nil] at * <;> first | with_reducible assumption | omega) | (simp only [z5, z6, z7, GS.nil_l, GS.some_l, List.length_set, List.length_append, List.length_cons, List.length_nil, z8] at * <;> first | with_reducible assumption | omega) | (simp at * <;> omega))) (And.intro (T_orders_Sum e) (And.intro h3 (And.intro (T_r_CheckAreas e areas (by first | assumption | omega | (with_reducible exact z9) | (with_reducible exact Nat.le_trans zb (by omega)) | (with_reducible exact Nat.le_trans zc (by omega)) | (with_reducible exact Nat.le_trans zd (by omega)) | (simp only [z8] at * <;> omega) | (simp only [z5, z6, z7, GS.nil_l, GS.some_l, List.length_set, List.length_append, List.length_cons, List.length_nil] at * <;> first | with_reducible assumption | omega) | (simp only [z5, z6, z7, GS.nil_l, GS.some_l, List.length_set, List.length_append, List.length_cons, List.length_nil, z8] at * <;> first | with_reducible assumption | omega) | (simp at * <;> omega))) (And.intro p2 (And.intro h2 (And.intro (T_r_Check e) (And.intro (zy e) (And.intro h1 (And.intro p1 (And.intro (Eq.refl true) (And.intro sane_ok trivial))))))))))))))))))))) (by kernel_rfl)
          | false =>
            have g5 := ne_of_beq_false h5
            exact zh ((l_OrdersKnown_o1 e areas items shown) ++ ((l_OrdersKnown_o2 e areas item items shown) ++ [.dec true, .dec false])) (And.intro h5 (And.intro h4 (And.intro p4 (And.intro p3 (And.intro (T_r_Closed e (by first | assumption | omega | (with_reducible exact z9) | (with_reducible exact Nat.le_trans zb (by omega)) | (with_reducible exact Nat.le_trans zc (by omega)) | (with_reducible exact Nat.le_trans zd (by omega)) | (simp only [z8] at * <;> omega) | (simp only [z5, z6, z7, GS.nil_l, GS.some_l, List.length_set, List.length_append, List.length_cons, List.length_nil] at * <;> first | with_reducible assumption | omega) | (simp only [z5, z6, z7, GS.nil_l, GS.some_l, List.length_set, List.length_append, List.length_cons, List.length_nil, z8] at * <;> first | with_reducible assumption | omega) | (simp at * <;> omega))) (And.intro (T_orders_Closed e) (And.intro (T_r_Part e item (by first | assumption | omega | (with_reducible exact z9) | (with_reducible exact Nat.le_trans zb (by omega)) | (with_reducible exact Nat.le_trans zc (by omega)) | (with_reducible exact Nat.le_trans zd (by omega)) | (simp only [z8] at * <;> omega) | (simp only [z5, z6, z7, GS.nil_l, GS.some_l, List.length_set, List.length_append, List.length_cons, List.length_nil] at * <;> first | with_reducible assumption | omega) | (simp only [z5, z6, z7, GS.nil_l, GS.some_l, List.length_set, List.length_append, List.length_cons, List.length_nil, z8] at * <;> first | with_reducible assumption | omega) | (simp at * <;> omega))) (And.intro (T_orders_Part e item (by first | assumption | omega | (with_reducible exact z9) | (with_reducible exact Nat.le_trans zb (by omega)) | (with_reducible exact Nat.le_trans zc (by omega)) | (with_reducible exact Nat.le_trans zd (by omega)) | (simp only [z8] at * <;> omega) | (simp only [z5, z6, z7, GS.nil_l, GS.some_l, List.length_set, List.length_append, List.length_cons, List.length_nil] at * <;> first | with_reducible assumption | omega) | (simp only [z5, z6, z7, GS.nil_l, GS.some_l, List.length_set, List.length_append, List.length_cons, List.length_nil, z8] at * <;> first | with_reducible assumption | omega) | (simp at * <;> omega))) (And.intro (T_r_Sum e (by first | assumption | omega | (with_reducible exact z9) | (with_reducible exact Nat.le_trans zb (by omega)) | (with_reducible exact Nat.le_trans zc (by omega)) | (with_reducible exact Nat.le_trans zd (by omega)) | (simp only [z8] at * <;> omega) | (simp only [z5, z6, z7, GS.nil_l, GS.some_l, List.length_set, List.length_append, List.length_cons, List.length_nil] at * <;> first | with_reducible assumption | omega) | (simp only [z5, z6, z7, GS.nil_l, GS.some_l, List.length_set, List.length_append, List.length_cons, List.length_nil, z8] at * <;> first | with_reducible assumption | omega) | (simp at * <;> omega))) (And.intro (T_orders_Sum e) (And.intro h3 (And.intro (T_r_CheckAreas e areas (by first | assumption | omega | (with_reducible exact z9) | (with_reducible exact Nat.le_trans zb (by omega)) | (with_reducible exact Nat.le_trans zc (by omega)) | (with_reducible exact Nat.le_trans zd (by omega)) | (simp only [z8] at * <;> omega) | (simp only [z5, z6, z7, GS.nil_l, GS.some_l, List.length_set, List.length_append, List.length_cons, List.length_nil] at * <;> first | with_reducible assumption | omega) | (simp only [z5, z6, z7, GS.nil_l, GS.some_l, List.length_set, List.length_append, List.length_cons, List.length_nil, z8] at * <;> first | with_reducible assumption | omega) | (simp at * <;> omega))) (And.intro p2 (And.intro h2 (And.intro (T_r_Check e) (And.intro (zy e) (And.intro h1 (And.intro p1 (And.intro (Eq.refl true) (And.intro sane_ok trivial)))))))))))))))))))) (by kernel_rfl)
        | false =>
          exact zh ((l_OrdersKnown_o1 e areas items shown) ++ ((l_OrdersKnown_o2 e areas item items shown) ++ [.dec false])) (And.intro h4 (And.intro p4 (And.intro p3 (And.intro (T_r_Closed e (by first | assumption | omega | (with_reducible exact z9) | (with_reducible exact Nat.le_trans zb (by omega)) | (with_reducible exact Nat.le_trans zc (by omega)) | (with_reducible exact Nat.le_trans zd (by omega)) | (simp only [z8] at * <;> omega) | (simp only [z5, z6, z7, GS.nil_l, GS.some_l, List.length_set, List.length_append, List.length_cons, List.length_nil] at * <;> first | with_reducible assumption | omega) | (simp only [z5, z6, z7, GS.nil_l, GS.some_l, List.length_set, List.length_append, List.length_cons, List.length_nil, z8] at * <;> first | with_reducible assumption | omega) | (simp at * <;> omega))) (And.intro (T_orders_Closed e) (And.intro (T_r_Part e item (by first | assumption | omega | (with_reducible exact z9) | (with_reducible exact Nat.le_trans zb (by omega)) | (with_reducible exact Nat.le_trans zc (by omega)) | (with_reducible exact Nat.le_trans zd (by omega)) | (simp only [z8] at * <;> omega) | (simp only [z5, z6, z7, GS.nil_l, GS.some_l, List.length_set, List.length_append, List.length_cons, List.length_nil] at * <;> first | with_reducible assumption | omega) | (simp only [z5, z6, z7, GS.nil_l, GS.some_l, List.length_set, List.length_append, List.length_cons, List.length_nil, z8] at * <;> first | with_reducible assumption | omega) | (simp at * <;> omega))) (And.intro (T_orders_Part e item (by first | assumption | omega | (with_reducible exact z9) | (with_reducible exact Nat.le_trans zb (by omega)) | (with_reducible exact Nat.le_trans zc (by omega)) | (with_reducible exact Nat.le_trans zd (by omega)) | (simp only [z8] at * <;> omega) | (simp only [z5, z6, z7, GS.nil_l, GS.some_l, List.length_set, List.length_append, List.length_cons, List.length_nil] at * <;> first | with_reducible assumption | omega) | (simp only [z5, z6, z7, GS.nil_l, GS.some_l, List.length_set, List.length_append, List.length_cons, List.length_nil, z8] at * <;> first | with_reducible assumption | omega) | (simp at * <;> omega))) (And.intro (T_r_Sum e (by first | assumption | omega | (with_reducible exact z9) | (with_reducible exact Nat.le_trans zb (by omega)) | (with_reducible exact Nat.le_trans zc (by omega)) | (with_reducible exact Nat.le_trans zd (by omega)) | (simp only [z8] at * <;> omega) | (simp only [z5, z6, z7, GS.nil_l, GS.some_l, List.length_set, List.length_append, List.length_cons, List.length_nil] at * <;> first | with_reducible assumption | omega) | (simp only [z5, z6, z7, GS.nil_l, GS.some_l, List.length_set, List.length_append, List.length_cons, List.length_nil, z8] at * <;> first | with_reducible assumption | omega) | (simp at * <;> omega))) (And.intro (T_orders_Sum e) (And.intro h3 (And.intro (T_r_CheckAreas e areas (by first | assumption | omega | (with_reducible exact z9) | (with_reducible exact Nat.le_trans zb (by omega)) | (with_reducible exact Nat.le_trans zc (by omega)) | (with_reducible exact Nat.le_trans zd (by omega)) | (simp only [z8] at * <;> omega) | (simp only [z5, z6, z7, GS.nil_l, GS.some_l, List.length_set, List.length_append, List.length_cons, List.length_nil] at * <;> first | with_reducible assumption | omega) | (simp only [z5, z6, z7, GS.nil_l, GS.some_l, List.length_set, List.length_append, List.length_cons, List.length_nil, z8] at * <;> first | with_reducible assumption | omega) | (simp at * <;> omega))) (And.intro p2 (And.intro h2 (And.intro (T_r_Check e) (And.intro (zy e) (And.intro h1 (And.intro p1 (And.intro (Eq.refl true) (And.intro sane_ok trivial))))))))))))))))))) (by kernel_rfl)
  | false =>
    exact zh [.pure (B true), .dec true, .pure (B (l_few e (GS.some [areas, items, shown]))), .dec false] (And.intro h1 (And.intro p1 (And.intro (Eq.refl true) (And.intro sane_ok trivial)))) (by kernel_rfl)
end Go.VS
/-
  VS, part P: what arguments that read as data stand for; what a law's call leaves. (A text of this claim's own; nothing of it is trusted.)
-/
namespace Go.VS
open Go Go.RowKit Go.ChangeShapes Go.WideShapes

def memOf (w : World) : Mem := fun b o => w.cell? ⟨b, o, none⟩
theorem memOf_ok (w : World) : MOK (memOf w) w := fun _ _ _ h => h

/-- Which cells a value of a type may have. -/
def Sh (C : Cfg) : Nat → TypeId → List D → Prop
  | 0, _, _ => False
  | f + 1, t, ds => match C.ty t with
    | some ty => match ty.kind with
      | .int k => ∃ n, ds = [.val (.int k n)] ∧ k.min ≤ n ∧ n ≤ k.max
      | .bool => ∃ b, ds = [B b]
      | .str => ∃ s : ByteArray, ds = [.val (.string s)] ∧ s.size ≤ maxLen
      | .struct fs => ds.length = ty.size ∧ ∀ p ∈ fs, ∃ tf, C.ty p.1 = some tf ∧ Sh C f p.1 ((ds.drop p.2).take tf.size)
      | .arr n e => ds.length = ty.size ∧ ∃ te, C.ty e = some te ∧ ∀ i, i < n → Sh C f e ((ds.drop (i * te.size)).take te.size)
      | .slice e => ds = [.sl true [] 0 none] ∨ ∃ els te, C.ty e = some te ∧ ds = [.sl false els te.size none] ∧ els.length ≤ maxLen ∧
          ∀ d ∈ els, Sh C f e d.cells ∧ (te.isAgg = true → d = .agg d.cells) ∧ (te.isAgg = false → d.cells = [d])
      | _ => False
    | none => False
/-- Types without slices. -/
def flatT (C : Cfg) : Nat → TypeId → Bool
  | 0, _ => false
  | f + 1, t => match C.ty t with
    | some ty => match ty.kind with
      | .int _ => true
      | .bool => true
      | .str => true
      | .struct fs => fs.all fun p => flatT C f p.1
      | .arr _ e => flatT C f e
      | _ => false
    | none => false
/-- Types with slices whose elements have none. -/
def topT (C : Cfg) : Nat → TypeId → Bool
  | 0, _ => false
  | f + 1, t => match C.ty t with
    | some ty => match ty.kind with
      | .int _ => true
      | .bool => true
      | .str => true
      | .struct fs => fs.all fun p => topT C f p.1
      | .arr _ e => topT C f e
      | .slice e => flatT C f e
      | _ => false
    | none => false
theorem flat_top {C : Cfg} : ∀ {f : Nat} {t : TypeId}, flatT C f t = true → topT C f t = true
  | 0, _, h => by cases h
  | f + 1, t, h => by
    unfold flatT at h; unfold topT
    split at h
    · rename_i ty ht
      try rw [ht]
      try simp only []
      cases hk : ty.kind <;> rw [hk] at h <;> simp only [] at h ⊢ <;> (try (cases h; done))
      · exact flat_top h
      · simp only [List.all_eq_true] at h ⊢
        exact fun p hp => flat_top (h p hp)
    · cases h

def plainCells (cs : List Value) : Prop := ∀ v ∈ cs, ∀ a l c, v = .slice (some a) l c → a.spot = none

theorem cellsOf_of {P : Program} {t : TypeId} {ty : Ty} (h : tyOf P t = some ty) : P.cellsOf t = ty.size := by
  obtain ⟨i, d, hi, hd, hz, hk, hs, hb⟩ := tyOf_spec h
  simp [Program.cellsOf, hi, hs]

theorem list_parts {α : Type} (l : List α) (n k : Nat) (h : l.length = n * k) : l = (List.range n).flatMap fun i => (l.drop (i * k)).take k := by
  induction n generalizing l with
  | zero => simp at h ⊢; exact h
  | succ n ih =>
    rw [List.range_succ_eq_map, List.flatMap_cons]
    simp only [Nat.zero_mul, List.drop_zero, List.flatMap_map]
    have hl : (l.drop k).length = n * k := by rw [List.length_drop, h, Nat.add_mul]; omega
    have e := ih (l.drop k) hl
    have : (List.range n).flatMap (fun i => ((l.drop k).drop (i * k)).take k) = (List.range n).flatMap (fun i => (l.drop ((i + 1) * k)).take k) := by
      congr 1; funext i; rw [List.drop_drop]; congr 2; rw [Nat.add_mul]; omega
    rw [this] at e
    calc l = l.take k ++ l.drop k := (List.take_append_drop k l).symm
      _ = _ := by rw [← e]

/-- Parts that stand for parts, put together. -/
theorem zI.join {M : Mem} {Q : Nat → List D → Prop} : ∀ (n : Nat) (F : Nat → List Value), (∀ i, i < n → ∃ ds, zI M noLoc ds (F i) ∧ Q i ds) →
    ∃ G : Nat → List D, zI M noLoc ((List.range n).flatMap G) ((List.range n).flatMap F) ∧ ∀ i, i < n → zI M noLoc (G i) (F i) ∧ Q i (G i) := by
  intro n F h
  obtain ⟨G, hG⟩ := Go.Deep.choose_lt (α := List D) (p := fun i ds => zI M noLoc ds (F i) ∧ Q i ds) h
  refine ⟨G, ?_, hG⟩
  have : ∀ l : List Nat, (∀ i ∈ l, i < n) → zI M noLoc (l.flatMap G) (l.flatMap F) := by
    intro l
    induction l with
    | nil => intro _; simp [zI]
    | cons a l ih =>
      intro hl
      simp only [List.flatMap_cons]
      exact zI.append (hG a (hl a (by simp))).1 (ih fun i hi => hl i (List.mem_cons_of_mem _ hi))
  exact this _ fun i hi => by simpa using hi
theorem flatMap_part {α : Type} (n : Nat) (G : Nat → List α) (k : Nat) (h : ∀ i, i < n → (G i).length = k) (i : Nat) (hi : i < n) : (((List.range n).flatMap G).drop (i * k)).take k = G i := by
  induction n generalizing i G with
  | zero => omega
  | succ n ih =>
    rw [List.range_succ_eq_map, List.flatMap_cons, List.flatMap_map]
    have h0 := h 0 (by omega)
    cases i with
    | zero => simp [← h0]
    | succ i =>
      rw [List.drop_append, List.drop_eq_nil_of_le (by rw [h0, Nat.add_mul]; omega), List.nil_append, h0]
      have : (i + 1) * k - k = i * k := by rw [Nat.add_mul]; omega
      rw [this]
      exact ih (fun i => G (i + 1)) (fun i hi => h (i + 1) (by omega)) i (by omega)

/-- The fields of a struct cover its cells, one behind the other. -/
def rowed : Nat → List (Nat × Nat) → Option Nat
  | o, [] => some o
  | o, (off, size) :: r => if off = o then rowed (o + size) r else none
def rowedT (C : Cfg) : Nat → TypeId → Bool
  | 0, _ => false
  | f + 1, t => match C.ty t with
    | some ty => match ty.kind with
      | .int _ => ty.size == 1
      | .bool => ty.size == 1
      | .str => ty.size == 1
      | .slice e => ty.size == 1 && (match C.ty e with | some te => rowedT C f e && decide (0 < te.size) | none => false)
      | .struct fs => (fs.all fun p => rowedT C f p.1) && (match placesOf C fs with | some pl => rowed 0 pl == some ty.size | none => false)
      | .arr n e => rowedT C f e && (match C.ty e with | some te => ty.size == n * te.size | none => false)
      | _ => false
    | none => false

theorem rowed_parts {M : Mem} {cs : List Value} : ∀ (l : List (Nat × Nat)) (o n : Nat), rowed o l = some n → n ≤ cs.length → ∀ {Q : Nat → List D → Prop},
    (∀ i p, l[i]? = some p → ∃ ds, zI M noLoc ds ((cs.drop p.1).take p.2) ∧ Q i ds) →
    ∃ ds, zI M noLoc ds ((cs.drop o).take (n - o)) ∧ ds.length = n - o ∧ o ≤ n ∧ ∀ i p, l[i]? = some p → o ≤ p.1 ∧ Q i ((ds.drop (p.1 - o)).take p.2)
  | [], o, n, h, hn, Q, _ => by
    simp only [rowed, Option.some.injEq] at h; subst h
    exact ⟨[], by simp [zI], by simp, Nat.le_refl _, by simp⟩
  | (off, size) :: r, o, n, h, hn, Q, hq => by
    simp only [rowed] at h
    split at h
    · rename_i ho; subst ho
      obtain ⟨d0, h1, h2⟩ := hq 0 (off, size) rfl
      obtain ⟨ds, k1, k2, k3, k4⟩ := rowed_parts r (off + size) n h hn (Q := fun i => Q (i + 1)) (fun i p hp => hq (i + 1) p (by simpa using hp))
      have hl : d0.length = size := by rw [← h1.length, List.length_take, List.length_drop]; omega
      refine ⟨d0 ++ ds, ?_, by simp [hl, k2]; omega, by omega, fun i p hp => ?_⟩
      · have e : (cs.drop off).take (n - off) = (cs.drop off).take size ++ (cs.drop (off + size)).take (n - (off + size)) := by
          rw [show n - off = size + (n - (off + size)) by omega, List.take_add, List.drop_drop]
        rw [e]; exact h1.append k1
      · cases i with
        | zero => simp at hp; subst hp; simp [← hl]; simpa [hl] using h2
        | succ i =>
          obtain ⟨q1, q2⟩ := k4 i p (by simpa using hp)
          refine ⟨by omega, ?_⟩
          rw [List.drop_append, List.drop_eq_nil_of_le (by omega), List.nil_append, hl, show p.1 - off - size = p.1 - (off + size) by omega]
          exact q2
    · cases h

section
variable {H : Type} {enc : TypeId × Value → H} {C : Cfg} {w : World} {base : Nat} {sp : Nat → Bool} {held : Bool}

theorem placesOf_get : ∀ {fs : List (TypeId × Nat)} {pl : List (Nat × Nat)}, placesOf C fs = some pl → fs.length = pl.length ∧ ∀ (i : Nat) (p : Nat × Nat), pl[i]? = some p → ∃ t ty, fs[i]? = some (t, p.1) ∧ C.ty t = some ty ∧ ty.size = p.2
  | [], pl, h => by simp [placesOf] at h; subst h; simp
  | (t, off) :: r, pl, h => by
    simp only [placesOf] at h
    split at h
    · rename_i ty l h1 h2
      cases h
      obtain ⟨k1, k2⟩ := placesOf_get h2
      refine ⟨by simp [k1], fun i p hp => ?_⟩
      cases i with
      | zero => simp at hp; subst hp; exact ⟨t, ty, by simp, h1, rfl⟩
      | succ i => obtain ⟨t', ty', a, b, c⟩ := k2 i p (by simpa using hp); exact ⟨t', ty', by simpa using a, b, c⟩
    · cases h

theorem fieldsOf_get {fs : Array Field} {i : Nat} {p : TypeId × Nat} (h : (fs.toList.map fun f => (f.type, f.offset))[i]? = some p) : ∃ f : Field, fs[i]? = some f ∧ f.type = p.1 ∧ f.offset = p.2 := by
  rw [List.getElem?_map] at h
  cases hf : fs.toList[i]? with
  | none => rw [hf] at h; cases h
  | some f => rw [hf] at h; cases h; exact ⟨f, by simpa using hf, rfl, rfl⟩

/-- What reads as data has a deep value. -/
theorem trod_rep (hC : ∀ t ty, C.ty t = some ty → tyOf C.P t = some ty) : ∀ (f n : Nat) (t : TypeId) (cs : List Value) (x : DataW H × List MemPlace),
    DataW.trod enc C.P w base sp held n t cs = some x → topT C f t = true → rowedT C f t = true → (plainCells cs ∨ flatT C f t = true) →
    ∃ ds, zI (memOf w) noLoc ds cs ∧ Sh C f t ds
  | 0, _, _, _, _, _, h, _, _ => by cases h
  | f + 1, n, t, cs, x, h, ht, hw, hp => by
    unfold topT at ht
    split at ht
    case h_2 => cases ht
    rename_i ty hty
    have hto := hC _ _ hty
    obtain ⟨i, d, hi, hd, hz, hk, hs, hb⟩ := tyOf_spec hto
    unfold rowedT at hw
    rw [hty] at hw; simp only [] at hw
    unfold Sh
    rw [hty]; simp only []
    have hp' : plainCells cs ∨ (match ty.kind with | .int _ => true | .bool => true | .str => true | .struct fs => fs.all (fun p => flatT C f p.1) | .arr _ e => flatT C f e | _ => false) = true := by
      rcases hp with hp | hp
      · exact .inl hp
      · unfold flatT at hp; rw [hty] at hp; exact .inr hp
    clear hp
    cases d <;> simp only [tkOf] at hk <;> rw [hk] at ht hw hp' ⊢ <;> simp only [] at ht hw hp' ⊢ <;> (try (cases ht; done))
    case bool =>
      obtain ⟨b, rfl, _⟩ := DataW.trod_bool hd h
      exact ⟨[B b], by simp [zI, Rep], b, rfl⟩
    case int k =>
      obtain ⟨m, rfl, _, hwf⟩ := DataW.trod_int hd h
      simp only [Lit.wf, Bool.and_eq_true, decide_eq_true_eq] at hwf
      exact ⟨[.val (.int k m)], by simp [zI, Rep], m, rfl, hwf⟩
    case string =>
      obtain ⟨s, rfl, _, hsz⟩ := DataW.trod_string hd h
      exact ⟨[.val (.string s)], by simp [zI, Rep], s, rfl, hsz⟩
    case struct fs =>
      obtain ⟨xs, m, rfl, _, hl, hxl, hf⟩ := DataW.trod_struct hd h
      rw [cellsOf_of hto] at hl
      simp only [Bool.and_eq_true] at hw
      obtain ⟨hw1, hw2⟩ := hw
      split at hw2
      case h_2 => cases hw2
      rename_i pl hpl
      have hrow : rowed 0 pl = some ty.size := by simpa using hw2
      obtain ⟨hlen, hget⟩ := placesOf_get hpl
      obtain ⟨ds, k1, k2, _, k4⟩ := rowed_parts (M := memOf w) (cs := cs) pl 0 ty.size hrow (by omega) (Q := fun i ds => ∃ p, (fs.toList.map fun f => (f.type, f.offset))[i]? = some p ∧ Sh C f p.1 ds) (fun i p hp0 => by
        obtain ⟨t', ty', a, b, c⟩ := hget i p hp0
        obtain ⟨fd, e1, e2, e3⟩ := fieldsOf_get a
        simp only [] at e2 e3
        have hmem := List.mem_of_getElem? a
        simp only [List.all_eq_true] at ht hw1
        have hx := hf i fd e1
        have hil : i < xs.length := by rw [hxl]; exact (Array.getElem?_eq_some_iff.1 e1).1
        rw [List.getElem?_eq_getElem hil, e2, e3, cellsOf_of (hC _ _ b), c] at hx
        obtain ⟨ds, q1, q2⟩ := trod_rep hC f m _ _ _ hx (ht _ hmem) (hw1 _ hmem) (by
          rcases hp' with hp | hp
          · exact .inl fun v hv => hp v (List.mem_of_mem_drop (List.mem_of_mem_take hv))
          · simp only [List.all_eq_true] at hp; exact .inr (hp _ hmem))
        exact ⟨ds, q1, _, a, q2⟩)
      simp only [List.drop_zero, Nat.sub_zero] at k1 k2 k4
      rw [← hl, List.take_length] at k1
      refine ⟨ds, k1, k2, fun p hpm => ?_⟩
      obtain ⟨i, hi'⟩ := List.mem_iff_getElem?.1 hpm
      have hil : i < pl.length := by rw [← hlen]; exact (List.getElem?_eq_some_iff.1 hi').1
      obtain ⟨t', ty', a, b, c⟩ := hget i pl[i] (List.getElem?_eq_getElem hil)
      rw [hi'] at a; cases a
      obtain ⟨_, p', q1, q2⟩ := k4 i pl[i] (List.getElem?_eq_getElem hil)
      rw [hi'] at q1; cases q1
      exact ⟨ty', b, by rw [c]; exact q2⟩
    case array m e =>
      obtain ⟨xs, m', rfl, _, hl, hxl, hf⟩ := DataW.trod_array hd h
      rw [cellsOf_of hto] at hl
      simp only [Bool.and_eq_true] at hw
      obtain ⟨hw1, hw2⟩ := hw
      split at hw2
      case h_2 => cases hw2
      rename_i te hte
      have hsz : ty.size = m * te.size := by simpa using hw2
      have hce := cellsOf_of (hC _ _ hte)
      have hpart := list_parts cs m te.size (by rw [hl, hsz])
      obtain ⟨G, g1, g2⟩ := zI.join (M := memOf w) (Q := fun _ ds => Sh C f e ds) m (fun i => (cs.drop (i * te.size)).take te.size) (fun i hi => by
        have hx := hf i hi
        rw [List.getElem?_eq_getElem (by omega), hce] at hx
        exact trod_rep hC f m' _ _ _ hx ht hw1 (by
          rcases hp' with hp | hp
          · exact .inl fun v hv => hp v (List.mem_of_mem_drop (List.mem_of_mem_take hv))
          · exact .inr hp))
      rw [← hpart] at g1
      have hGl : ∀ i, i < m → (G i).length = te.size := by
        intro i hi
        rw [← (g2 i hi).1.length, List.length_take, List.length_drop, hl, hsz]
        have : (i + 1) * te.size ≤ m * te.size := Nat.mul_le_mul_right _ hi
        rw [Nat.add_mul] at this; omega
      refine ⟨_, g1, by rw [← g1.length]; exact hl, te, hte, fun i hi => ?_⟩
      rw [flatMap_part m G te.size hGl i hi]
      exact (g2 i hi).2
    case slice e =>
      simp only [Bool.and_eq_true] at hw
      obtain ⟨_, hw2⟩ := hw
      split at hw2
      case h_2 => cases hw2
      rename_i te hte
      simp only [Bool.and_eq_true, decide_eq_true_eq] at hw2
      obtain ⟨hw2, hpos⟩ := hw2
      have hce := cellsOf_of (hC _ _ hte)
      rcases Go.Deep.open_slice hd h with ⟨rfl, _⟩ | ⟨a, len, cap, m, n', Dd, Pl, rfl, hb, hl, hm, hmm, _, hx⟩
      · exact ⟨[.sl true [] 0 none], by simp [zI, Rep], .inl rfl⟩
      · have hlm : len ≤ m := by rw [hmm]; split <;> omega
        have hsp : a.spot = none := by
          rcases hp' with hp | hp
          · exact hp _ (by simp) a len cap rfl
          · cases hp
        obtain ⟨b, o, s⟩ := a
        simp only [] at hsp; subst hsp
        obtain ⟨G, hG⟩ := Go.Deep.choose_lt (α := D) (p := fun i d => (∃ u, Rep (memOf w) noLoc d u ∧ u.cells.size = te.size ∧ MemAt (memOf w) b (o + i * te.size) u.cells) ∧ Sh C f e d.cells ∧ (te.isAgg = true → d = .agg d.cells) ∧ (te.isAgg = false → d.cells = [d])) (n := len) (fun i hi => by
          obtain ⟨cs', c1, c2⟩ := hx i (by omega)
          obtain ⟨_, c3, c4⟩ := World.cells?_some c1
          obtain ⟨ds, q1, q2⟩ := trod_rep hC f n' e cs' _ c2 (flat_top ht) hw2 (.inr ht)
          rw [hce] at c3 c4
          have hM : MemAt (memOf w) b (o + i * te.size) cs'.toArray := by
            intro j u hu
            have hj : j < te.size := by
              have := (Array.getElem?_eq_some_iff.1 hu).1; simpa [c3] using this
            have := c4 j hj
            rw [addr_add, addr_add] at this
            unfold memOf
            rw [this]; simpa using hu
          cases hag : te.isAgg with
          | true =>
            refine ⟨.agg ds, ⟨.agg cs'.toArray, ?_, by simpa [Value.cells] using c3, hM⟩, q2, fun _ => rfl, fun h => by simp at h⟩
            simp only [Rep]; exact ⟨_, rfl, by simpa using q1⟩
          | false =>
            -- one cell
            obtain ⟨i2, d2, _, hd2, _, hk2, _, _⟩ := tyOf_spec (hC _ _ hte)
            have h1 : te.size = 1 ∧ ∃ d v, ds = [d] ∧ d.cells = [d] ∧ cs' = [v] ∧ v.cells = #[v] := by
              cases f with
              | zero => cases ht
              | succ f =>
                unfold flatT at ht; unfold rowedT at hw2; unfold Sh at q2
                rw [hte] at ht hw2 q2; simp only [] at ht hw2 q2
                cases d2 <;> simp only [tkOf] at hk2 <;> rw [hk2] at ht hw2 q2 <;> simp only [] at ht hw2 q2 <;> (try (cases ht; done))
                · obtain ⟨b', rfl⟩ := q2
                  simp only [zI, Rep] at q1
                  obtain ⟨v, r, rfl, rfl, rfl⟩ := q1
                  exact ⟨by simpa using hw2, _, _, rfl, rfl, rfl, rfl⟩
                · obtain ⟨z, rfl, _⟩ := q2
                  simp only [zI, Rep] at q1
                  obtain ⟨v, r, rfl, rfl, rfl⟩ := q1
                  exact ⟨by simpa using hw2, _, _, rfl, rfl, rfl, rfl⟩
                · obtain ⟨z, rfl, _⟩ := q2
                  simp only [zI, Rep] at q1
                  obtain ⟨v, r, rfl, rfl, rfl⟩ := q1
                  exact ⟨by simpa using hw2, _, _, rfl, rfl, rfl, rfl⟩
                · simp [Ty.isAgg, hk2] at hag
                · simp [Ty.isAgg, hk2] at hag
            obtain ⟨hsz, dd, v, rfl, hdc, rfl, hvc⟩ := h1
            simp only [zI] at q1
            obtain ⟨v', r, e1, q1, rfl⟩ := q1
            cases e1
            refine ⟨dd, ⟨v, q1, by rw [hvc, hsz]; rfl, by rw [hvc]; exact hM⟩, by rw [hdc]; exact q2, fun h => by simp at h, fun _ => hdc⟩)
        refine ⟨[.sl false ((List.range len).map G) te.size none], ?_, .inr ⟨_, te, hte, rfl, by simp; omega, fun d hd' => ?_⟩⟩
        · simp only [zI, Rep]
          refine ⟨_, [], rfl, ⟨by simp, fun _ => ⟨b, o, cap, by simp, by simpa using hl, hm, by simp, RepE.ofGet fun i d hd' => ?_⟩⟩, rfl⟩
          rw [List.getElem?_map] at hd'
          have hi' : i < len := by
            rcases Nat.lt_or_ge i len with h | h
            · exact h
            · rw [List.getElem?_eq_none (by simpa using h)] at hd'; cases hd'
          rw [List.getElem?_range hi'] at hd'; cases hd'
          exact (hG i hi').1
        · obtain ⟨i, hi', rfl⟩ := List.mem_map.1 hd'
          exact (hG i (by simpa using hi')).2

/-- An argument. -/
theorem plain_arg {P : Program} {r : Reach} {base : Nat} {t : TypeId} {v : Value} (h : Value.okWide P w r base t v) : plainCells v.cells.toList := by
  have key : ∀ u x, Cell.okWide P w r base u x → ∀ a l c, x = .slice (some a) l c → a.spot = none := by
    rintro u x hx a l c rfl
    unfold Cell.okWide at hx
    split at hx <;> try (rename_i h1 h2; cases h2; done)
    unfold Cell.ok at hx
    split at hx <;> try (rename_i h1 h2; cases h2; done)
    · rename_i h1 h2
      cases h2
      exact hx.2.2.2.1
    · cases hx
  unfold Value.okWide at h
  split at h
  · obtain ⟨cs, rfl, _, ts, _, _, hc⟩ := h
    intro x hx
    obtain ⟨i, hi⟩ := List.mem_iff_getElem?.1 hx
    obtain ⟨u, _, hu⟩ := hc i x (by simpa [Value.cells] using hi)
    exact key u x hu
  · obtain ⟨cs, rfl, _, ts, _, _, hc⟩ := h
    intro x hx
    obtain ⟨i, hi⟩ := List.mem_iff_getElem?.1 hx
    obtain ⟨u, _, hu⟩ := hc i x (by simpa [Value.cells] using hi)
    exact key u x hu
  · intro x hx a l c e
    have hv : x = v ∨ ∃ cs, v = .agg cs := by
      cases v <;> first | exact .inr ⟨_, rfl⟩ | (left; simpa [Value.cells] using hx)
    rcases hv with rfl | ⟨cs, rfl⟩
    · exact key t x h a l c e
    · exfalso
      unfold Cell.okWide at h
      split at h <;> try (rename_i h1 h2; cases h2; done)
      unfold Cell.ok at h
      split at h <;> first | (rename_i h1 h2; cases h2; done) | cases h
end
end Go.VS
/-
  VS, part P2: what a law's call leaves, as its row says it. (A text of this claim's own; nothing of it is trusted.)
-/
namespace Go.VS
open Go Go.RowKit Go.ChangeShapes Go.WideShapes

section
variable {H : Type} {enc : TypeId × Value → H} {P : Program}
theorem trodAll_carry {w w' : World} {base : Nat} {sp : Nat → Bool} {held : Bool} : ∀ {ts : List TypeId} {vs : List Value} {ds : List (DataW H)} {ps : List MemPlace}, DataW.TrodAll enc P w base sp held ts vs ds ps → (∀ p ∈ ps, w.sameAt w' p) → DataW.TrodAll enc P w' base sp held ts vs ds ps
  | [], [], [], _, h, _ => h
  | _ :: _, _ :: _, _ :: _, _, ⟨p, q, ⟨n, h1⟩, h2, e⟩, hs => ⟨p, q, ⟨n, DataW.trod_carry n _ _ _ h1 (fun x hx => hs x (by rw [e]; exact List.mem_append_left _ hx))⟩, trodAll_carry h2 (fun x hx => hs x (by rw [e]; exact List.mem_append_right _ hx)), e⟩
theorem sameAt_of {w w' : World} (h : ∀ b, b < w.heap.size → w'.heap[b]? = w.heap[b]?) : ∀ p : MemPlace, p.block < w.heap.size → w.sameAt w' p
  | .cell b off, hp => by
    show w'.cell? ⟨b, off, none⟩ = w.cell? ⟨b, off, none⟩
    unfold World.cell?
    rw [h b hp]
  | .map b, hp => h b hp
theorem post_same {f : Func} {s : ChangeSpec} {apart fresh handsOn again : Bool} {W W' : World} {args : Array Value} {v : Value} {ds gs : List (DataW H)} {before pa pv : List MemPlace}
    (hW : DataW.Whole enc P f.params.toList s.vars apart W args.toList ds gs before)
    (hres : ∀ (b : Nat) (sp : Nat → Bool) (hd : Bool), DataW.TrodAll enc P W' b sp hd f.resultTypes.toList (v.resultList f.resultTypes.size) (s.fn H (ds ++ gs)).results [])
    (hargs : ∀ sp : Nat → Bool, (∀ p ∈ before, sp p.block = true) → DataW.TrodAll enc P W' 0 sp true f.params.toList args.toList (s.fn H (ds ++ gs)).args pa)
    (hvars : ∀ sp : Nat → Bool, (∀ p ∈ before, sp p.block = true) → DataW.TrodVars enc P W' sp s.vars (s.fn H (ds ++ gs)).vars pv)
    (hps : before = pa ++ pv) (hk : W.keptBut W' (· ∈ before)) (hfz : ∀ p ∈ before, ∀ b off, p = .cell b off → W'.frozen? ⟨b, off, none⟩ = W.frozen? ⟨b, off, none⟩)
    (hok : ∀ (j : Nat) (t : TypeId) (r : Value), f.resultTypes[j]? = some t → (v.resultList f.resultTypes.size)[j]? = some r → Value.okWide P W' .any 0 t r) :
    s.post enc P f apart fresh handsOn again W args v W' := by
  have hold : ∀ p ∈ before, (fun b => decide (b < W.heap.size)) p.block = true := fun p hp => by simpa using hW.lt p hp
  refine ⟨ds, gs, before, [], pa, pv, hW, hres _ _ _, hargs _ hold, hvars _ hold, World.keptBut_mono (fun p hp => ⟨hp, ?_⟩) hk, fun _ => ?_⟩
  · rw [hps, List.mem_append] at hp
    exact Or.inr hp
  · obtain ⟨_, _, _, _, _, hz, hn⟩ := hW
    refine ⟨hok, _, _, ([] ++ pa) ++ pv, ⟨[] ++ pa, pv, trodAll_append (hargs _ (fun _ _ => rfl)) (hres _ _ _), hvars _ (fun _ _ => rfl), rfl, ?_, ?_⟩, ?_⟩
    · intro b off hp
      have hp' : MemPlace.cell b off ∈ before := by rw [hps]; simpa using hp
      rw [hfz _ hp' b off rfl]
      exact hz b off hp'
    · intro ha
      have := hn ha
      rw [hps] at this
      simpa using this
    · intro p hp _
      rw [hps]
      simpa using hp

theorem law_post {C : Cfg} (hC : CfgOK C) (hX : ExtOK C) (hl : laidOutB C.P = true) (hm : mapsRowed C.P = true) (hz : ∀ t e, t < C.P.types.size → C.P.underlying t = some (.slice e) → 0 < C.P.cellsOf e)
    {K : FuncId} {dsD : List D} (hpure : (lim C).pure K dsD = some (B true)) {W : World} {args : Array Value} (hrep : zI (memOf W) noLoc dsD args.toList) (hG : zZ C (memOf W))
    {f : Func} {s : ChangeSpec} {apart fresh handsOn again : Bool} {ds gs : List (DataW H)} {before : List MemPlace}
    (hW : DataW.Whole enc C.P f.params.toList s.vars apart W args.toList ds gs before) (hv : s.vars = [])
    (hfn : s.fn H ds = { results := [.lit (.bool true)], args := ds }) {tb : TypeId} (hres : f.resultTypes = #[tb]) (htb : C.P.underlying tb = some .bool)
    (hts : ∀ t ∈ f.params.toList, t < C.P.types.size) :
    Calls C.P K args W fun e W' => ∃ v, e = .returned v ∧ s.post enc C.P f apart fresh handsOn again W args v W' := by
  refine (lim_sound hC hX hpure (memOf W) W args (memOf_ok W) hG hrep).mono ?_
  rintro e W' ⟨v, M', rfl, k1, k2, k3, k4, k5, k6, k7, k8, k9⟩
  simp only [Rep] at k3; subst k3
  have hW' := hW
  obtain ⟨p, q, hA, hVars, rfl, hnf, hnd⟩ := hW'
  rw [hv] at hVars
  obtain ⟨rfl, rfl⟩ : gs = [] ∧ q = [] := by
    cases gs with
    | nil => exact ⟨rfl, hVars⟩
    | cons g gs => cases hVars
  have hlt := hW.lt
  refine ⟨_, rfl, post_same (pa := p) (pv := []) hW ?_ ?_ ?_ rfl ?_ ?_ ?_⟩
  · intro b sp hd
    rw [List.append_nil, hfn, hres]
    refine ⟨[], [], ⟨1, ?_⟩, rfl, rfl⟩
    simp [DataW.trod, htb, Value.cells]
  · intro sp hsp
    rw [List.append_nil, hfn]
    refine trodAll_carry (DataW.TrodAll.respare (T := (· < C.P.types.size)) (kids_rows hl hm) hz hts hA (fun p hp => hsp p (by simpa using hp))) (fun p hp => sameAt_of k8 p (hlt p (by simpa using hp)))
  · intro sp hsp
    rw [List.append_nil, hfn, hv]; rfl
  · refine ⟨k4.1, k6, fun i hi => ?_⟩
    rw [k8 i hi]
    cases hh : W.heap[i]? with
    | none => trivial
    | some o => cases o <;> simp
  · rintro _ hp b off rfl
    unfold World.frozen?
    rw [k8 b (hlt _ hp)]
  · intro j t r h1 h2
    rw [hres] at h1 h2
    cases j with
    | zero =>
      simp at h1; subst h1
      simp [Value.resultList] at h2; subst h2
      simp [Value.okWide, htb, Cell.okWide, Cell.ok]
    | succ j => simp at h1
end
end Go.VS
/-
  The seat's program: its tables are right; what its arguments stand for. (Printed by go/oq.py, a program of this claim's own; nothing of it is trusted.)
-/
namespace Go.VS
open Go Go.Proofs Go.RowKit Go.ChangeShapes Go.WideShapes
theorem cfgOK : CfgOK cfg where
  ty := fun _ _ h => tyTab_ok.find h
  fn := fun _ _ h => fnTab_ok.find h
  enter := fun _ _ h => enTab_ok.find h
  mixed := by kernel_rfl
  eqok := fun t h => by
    have h1 : (eqTab.find t).isSome = true := h
    cases hf : eqTab.find t with
    | none => rw [hf] at h1; cases h1
    | some u =>
      have := eqTab_ok.find hf
      unfold eqB at this
      simp only [Bool.and_eq_true, Bool.not_eq_true'] at this
      refine ⟨this.1.1, this.1.2, fun fs hfs f hm => ?_⟩
      have h2 := this.2
      have hfs' : Tryz.prog.underlying t = some (.struct fs) := hfs
      rw [hfs'] at h2
      simp only [List.all_eq_true, bne_iff_ne] at h2
      exact h2 f hm
theorem extOK : ExtOK cfg where
  pure := fun K g args d h => by rw [cfg_ext] at h; cases h
  inl := fun K g args objs nxt d objs' nxt' h => by rw [cfg_xinl] at h; cases h
theorem globOK {M : Mem} : zZ cfg M := fun g d h => by cases h
set_option maxRecDepth 100000
theorem laid_out : laidOutB Tryz.prog = true := by kernel_rfl
theorem maps_rowed : mapsRowed Tryz.prog = true := by kernel_rfl
theorem sl_full : ∀ t e, t < Tryz.prog.types.size → Tryz.prog.underlying t = some (.slice e) → 0 < Tryz.prog.cellsOf e := slices_full_of Tryz.prog (by kernel_rfl)
theorem i64_min : IntKind.i64.min = -9223372036854775808 := by rfl
theorem i64_max : IntKind.i64.max = 9223372036854775807 := by rfl
def R64 (n : Int) : Prop := -9223372036854775808 ≤ n ∧ n ≤ 9223372036854775807
section
variable {H : Type} {enc : TypeId × Value → H} {w : World} {base base' : Nat} {sp : Nat → Bool} {held : Bool} {t : TypeId} {v : Value} {d : DataW H} {p : List MemPlace} {r : Reach}
theorem arg_rep (h : DataW.Trod enc Tryz.prog w base sp held t v d p) (hv : Value.okWide Tryz.prog w r base' t v) (ht : topT cfg 8 t = true) (hr : rowedT cfg 8 t = true) :
    ∃ ds, zI (memOf w) noLoc ds v.cells.toList ∧ Sh cfg 8 t ds := by
  obtain ⟨n, hn⟩ := h
  exact trod_rep (C := cfg) (fun t ty h => tyTab_ok.find h) 8 n t _ _ hn ht hr (.inl (plain_arg hv))
theorem repL_one {M : Mem} {m : Loc} {d : D} {cs : List Value} (h : zI M m [d] cs) : ∃ v, cs = [v] ∧ Rep M m d v := by
  simp only [zI] at h
  obtain ⟨v, r, h1, h2, rfl⟩ := h
  exact ⟨v, h1, h2⟩
theorem one_cell {x u : Value} (h : x.cells.toList = [u]) (hp : ∀ cs, x ≠ .agg cs) : x = u := by
  cases x <;> simp [Value.cells] at h <;> first | exact h | exact absurd rfl (hp _)
theorem ok_notAgg (hv : Value.okWide Tryz.prog w r base' t v) (hs : ∀ fs, Tryz.prog.underlying t ≠ some (.struct fs)) (ha : ∀ n e, Tryz.prog.underlying t ≠ some (.array n e)) : ∀ cs, v ≠ .agg cs := by
  rintro cs rfl
  unfold Value.okWide at hv
  split at hv
  · rename_i h; exact hs _ h
  · rename_i h; exact ha _ _ h
  · unfold Cell.okWide at hv
    split at hv <;> try (rename_i h1 h2; cases h2; done)
    unfold Cell.ok at hv
    split at hv <;> first | (rename_i h1 h2; cases h2; done) | cases hv
theorem agg_of (hv : Value.okWide Tryz.prog w r base' t v) (hs : (∃ fs, Tryz.prog.underlying t = some (.struct fs)) ∨ (∃ n e, Tryz.prog.underlying t = some (.array n e))) : ∃ cs, v = .agg cs := by
  unfold Value.okWide at hv
  rcases hs with ⟨fs, hs⟩ | ⟨n, e, hs⟩ <;> rw [hs] at hv <;> simp only [] at hv <;> obtain ⟨cs, rfl, _⟩ := hv <;> exact ⟨cs, rfl⟩
end
theorem sh3 {f : Nat} {ds : List D} (h : Sh cfg (f + 1) 3 ds) : ∃ x : Int, ds = [I x] ∧ R64 x := by
  rw [Sh, cfg_ty, cty3] at h
  simp only [ty3] at h
  obtain ⟨n, h1, h2, h3⟩ := h
  rw [i64_min] at h2
  rw [i64_max] at h3
  exact ⟨n, h1, h2, h3⟩
theorem sh24 {f : Nat} {ds : List D} (h : Sh cfg (f + 2) 24 ds) : ∃ x : S_Span, ds = [I x.lo, I x.hi] ∧ True := by
  rw [Sh, cfg_ty, cty24] at h
  simp only [ty24] at h
  obtain ⟨hl, hf⟩ := h
  obtain ⟨t0, q0, z0⟩ := hf (3, 0) (by simp)
  obtain rfl : t0 = ty3 := (Option.some.inj (cty3.symm.trans q0)).symm
  obtain ⟨x0, e0, r0⟩ := sh3 (f := f + 0) z0
  obtain ⟨t1, q1, z1⟩ := hf (3, 1) (by simp)
  obtain rfl : t1 = ty3 := (Option.some.inj (cty3.symm.trans q1)).symm
  obtain ⟨x1, e1, r1⟩ := sh3 (f := f + 0) z1
  rcases ds with _ | ⟨c0, _ | ⟨c1, _ | ⟨y, r⟩⟩⟩
  all_goals simp at hl
  simp [ty3] at e0
  simp [ty3] at e1
  exact ⟨⟨x0, x1⟩, by simp [*], trivial⟩
theorem sh69 {f : Nat} {ds : List D} (h : Sh cfg (f + 3) 69 ds) : ∃ x : S_Item, ds = [I x.now.lo, I x.now.hi, I x.cost, I x.error] ∧ True := by
  rw [Sh, cfg_ty, cty69] at h
  simp only [ty69] at h
  obtain ⟨hl, hf⟩ := h
  obtain ⟨t0, q0, z0⟩ := hf (24, 0) (by simp)
  obtain rfl : t0 = ty24 := (Option.some.inj (cty24.symm.trans q0)).symm
  obtain ⟨x0, e0, r0⟩ := sh24 (f := f + 0) z0
  obtain ⟨t1, q1, z1⟩ := hf (3, 2) (by simp)
  obtain rfl : t1 = ty3 := (Option.some.inj (cty3.symm.trans q1)).symm
  obtain ⟨x1, e1, r1⟩ := sh3 (f := f + 1) z1
  obtain ⟨t2, q2, z2⟩ := hf (3, 3) (by simp)
  obtain rfl : t2 = ty3 := (Option.some.inj (cty3.symm.trans q2)).symm
  obtain ⟨x2, e2, r2⟩ := sh3 (f := f + 1) z2
  rcases ds with _ | ⟨c0, _ | ⟨c1, _ | ⟨c2, _ | ⟨c3, _ | ⟨y, r⟩⟩⟩⟩⟩
  all_goals simp at hl
  simp [ty24] at e0
  simp [ty3] at e1
  simp [ty3] at e2
  exact ⟨⟨x0, x1, x2⟩, by simp [*], trivial⟩
theorem sh22 {f : Nat} {ds : List D} (h : Sh cfg (f + 4) 22 ds) : ∃ x : GS S_Item, ds = [.sl x.nl (x.l.map S_Item.D) (zsl x.nl 4) none] ∧ x.l.length ≤ 9223372036854775807 := by
  rw [Sh, cfg_ty, cty22] at h
  simp only [ty22] at h
  rcases h with h | ⟨els, te, h1, h2, h3, h4⟩
  · exact ⟨GS.nil, h, by simp [GS.nil]⟩
  · obtain rfl : te = ty69 := (Option.some.inj (cty69.symm.trans h1)).symm
    have key : ∀ els : List D, (∀ d ∈ els, Sh cfg (f + 3) 69 d.cells ∧ (ty69.isAgg = true → d = .agg d.cells) ∧ (ty69.isAgg = false → d.cells = [d])) → ∃ l : List S_Item, els = l.map S_Item.D := by
      intro els
      induction els with
      | nil => intro _; exact ⟨[], rfl⟩
      | cons d els ih =>
        intro hd
        obtain ⟨l, hl⟩ := ih fun d' h' => hd d' (List.mem_cons_of_mem _ h')
        obtain ⟨q1, q2, q3⟩ := hd d (by simp)
        obtain ⟨a, e, _⟩ := sh69 (f := f + 0) q1
        have hx : d = S_Item.D a := by rw [q2 rfl, e]; rfl
        exact ⟨a :: l, by rw [List.map_cons, ← hx, ← hl]⟩
    obtain ⟨l, rfl⟩ := key els h4
    refine ⟨GS.some l, h2, ?_⟩
    simp only [List.length_map, maxLen] at h3
    simp only [GS.some]
    omega
theorem sh26 {f : Nat} {ds : List D} (h : Sh cfg (f + 5) 26 ds) : ∃ x : S_Estate, ds = [.sl x.items.nl (x.items.l.map S_Item.D) (zsl x.items.nl 4) none, I x.whole.lo, I x.whole.hi] ∧ x.items.l.length ≤ 9223372036854775807 := by
  rw [Sh, cfg_ty, cty26] at h
  simp only [ty26] at h
  obtain ⟨hl, hf⟩ := h
  obtain ⟨t0, q0, z0⟩ := hf (22, 0) (by simp)
  obtain rfl : t0 = ty22 := (Option.some.inj (cty22.symm.trans q0)).symm
  obtain ⟨x0, e0, r0⟩ := sh22 (f := f + 0) z0
  obtain ⟨t1, q1, z1⟩ := hf (24, 1) (by simp)
  obtain rfl : t1 = ty24 := (Option.some.inj (cty24.symm.trans q1)).symm
  obtain ⟨x1, e1, r1⟩ := sh24 (f := f + 2) z1
  rcases ds with _ | ⟨c0, _ | ⟨c1, _ | ⟨c2, _ | ⟨y, r⟩⟩⟩⟩
  all_goals simp at hl
  simp [ty22] at e0
  simp [ty24] at e1
  exact ⟨⟨x0, x1⟩, by simp [*], r0⟩
theorem sh32 {f : Nat} {ds : List D} (h : Sh cfg (f + 2) 32 ds) : ∃ x : GS Int, ds = [.sl x.nl (x.l.map I) (zsl x.nl 1) none] ∧ x.l.length ≤ 9223372036854775807 := by
  rw [Sh, cfg_ty, cty32] at h
  simp only [ty32] at h
  rcases h with h | ⟨els, te, h1, h2, h3, h4⟩
  · exact ⟨GS.nil, h, by simp [GS.nil]⟩
  · obtain rfl : te = ty3 := (Option.some.inj (cty3.symm.trans h1)).symm
    have key : ∀ els : List D, (∀ d ∈ els, Sh cfg (f + 1) 3 d.cells ∧ (ty3.isAgg = true → d = .agg d.cells) ∧ (ty3.isAgg = false → d.cells = [d])) → ∃ l : List Int, els = l.map I := by
      intro els
      induction els with
      | nil => intro _; exact ⟨[], rfl⟩
      | cons d els ih =>
        intro hd
        obtain ⟨l, hl⟩ := ih fun d' h' => hd d' (List.mem_cons_of_mem _ h')
        obtain ⟨q1, q2, q3⟩ := hd d (by simp)
        obtain ⟨a, e, _⟩ := sh3 (f := f + 0) q1
        have hx : d = I a := by have := (q3 rfl).symm.trans e; simpa using this
        exact ⟨a :: l, by rw [List.map_cons, ← hx, ← hl]⟩
    obtain ⟨l, rfl⟩ := key els h4
    refine ⟨GS.some l, h2, ?_⟩
    simp only [List.length_map, maxLen] at h3
    simp only [GS.some]
    omega
theorem arg3 {H : Type} {enc : TypeId × Value → H} {w : World} {base base' : Nat} {sp : Nat → Bool} {held : Bool} {v : Value} {d : DataW H} {p : List MemPlace} {r : Reach} (h : DataW.Trod enc Tryz.prog w base sp held 3 v d p) (hv : Value.okWide Tryz.prog w r base' 3 v) : ∃ x : Int, Rep (memOf w) noLoc (I x) v ∧ R64 x := by
  obtain ⟨ds, h1, h2⟩ := arg_rep h hv (by kernel_rfl) (by kernel_rfl)
  obtain ⟨x, rfl, hx⟩ := sh3 (f := 7) h2
  obtain ⟨u, e, hu⟩ := repL_one h1
  exact ⟨x, by rw [one_cell e (ok_notAgg hv (by rw [Tryz.underlying3]; simp) (by rw [Tryz.underlying3]; simp))]; exact hu, hx⟩
theorem arg26 {H : Type} {enc : TypeId × Value → H} {w : World} {base base' : Nat} {sp : Nat → Bool} {held : Bool} {v : Value} {d : DataW H} {p : List MemPlace} {r : Reach} (h : DataW.Trod enc Tryz.prog w base sp held 26 v d p) (hv : Value.okWide Tryz.prog w r base' 26 v) : ∃ x : S_Estate, Rep (memOf w) noLoc (S_Estate.D x) v ∧ x.items.l.length ≤ 9223372036854775807 := by
  obtain ⟨ds, h1, h2⟩ := arg_rep h hv (by kernel_rfl) (by kernel_rfl)
  obtain ⟨x, rfl, hx⟩ := sh26 (f := 3) h2
  obtain ⟨cs, rfl⟩ := agg_of hv (.inl ⟨_, Tryz.underlying26⟩)
  refine ⟨x, ?_, hx⟩
  simp only [Rep, S_Estate.D]
  exact ⟨cs, rfl, by simpa [Value.cells] using h1⟩
theorem arg32 {H : Type} {enc : TypeId × Value → H} {w : World} {base base' : Nat} {sp : Nat → Bool} {held : Bool} {v : Value} {d : DataW H} {p : List MemPlace} {r : Reach} (h : DataW.Trod enc Tryz.prog w base sp held 32 v d p) (hv : Value.okWide Tryz.prog w r base' 32 v) : ∃ x : GS Int, Rep (memOf w) noLoc (GS.D I 1 x) v ∧ x.l.length ≤ 9223372036854775807 := by
  obtain ⟨ds, h1, h2⟩ := arg_rep h hv (by kernel_rfl) (by kernel_rfl)
  obtain ⟨x, rfl, hx⟩ := sh32 (f := 6) h2
  obtain ⟨u, e, hu⟩ := repL_one h1
  exact ⟨x, by rw [one_cell e (ok_notAgg hv (by rw [Tryz.underlying32]; simp) (by rw [Tryz.underlying32]; simp))]; exact hu, hx⟩
end Go.VS
/-
  Orders: OrdersKnown answers true. (A text of this claim's own; nothing of it is trusted.)
-/
namespace Go.VS
open Go Go.Proofs
set_option maxHeartbeats 0
theorem kfirst_eq {e : S_Estate} {items : GS Int} (hL : items.l.length ≤ 9223372036854775807) : r_first e items = zp e items := by
  unfold r_first
  cases hv : zR e with
  | false =>
    have h1 : zo e = 80 := by rw [check_valid, hv]; rfl
    unfold zp
    rw [h1]
    rfl
  | true =>
    have h := valid_iff.1 hv
    cases hr : r_Right e items with
    | true => rw [right_of hL h ((rright_iff hL).1 hr)]; rfl
    | false =>
      have hn : ¬ zp e items = 0 := fun h0 => by
        rw [(rright_iff hL).2 ((right_iff hL).1 h0).2] at hr; cases hr
      unfold zp at hn ⊢
      rw [check_iff.2 h] at hn ⊢
      revert hn
      cases orders_right_5 e items items.l 0 <;> simp
theorem kcheck_eq (e : S_Estate) : r_Check e = zo e := by
  unfold r_Check
  rw [kfirst_eq (by simp [GS.nil])]
  unfold zp
  cases hc : (zo e != 0) with
  | true => rfl
  | false => have := zF hc; rw [this]; rfl
theorem kareasR5 {e : S_Estate} (hs : OkSpans e.items.l) (hn : e.items.l.length ≤ 12) : ∀ (a : List Int) (i : Nat) (l : List S_Item) (n : Int), e.items.l.drop i = l → a.length = l.length → 0 ≤ n → n + 1073741824 * (l.length : Int) ≤ 4611686018427387904 →
    (In l a → r_CheckAreas_5 e a i n = .x0 (n + tot a)) ∧ (¬ In l a → (∃ j x m, r_CheckAreas_5 e a i n = .x1 j x m) ∨ (∃ j x m, r_CheckAreas_5 e a i n = .x2 j x m))
  | [], i, [], n, _, _, _, _ => ⟨fun _ => by simp [r_CheckAreas_5, tot], fun h => (h trivial).elim⟩
  | [], _, _ :: _, _, _, h, _, _ => by simp at h
  | _ :: _, _, [], _, _, h, _, _ => by simp at h
  | b :: a, i, x :: l, n, hd, hl, h0, h1 => by
    have hx := drop_at hd
    have hm : x ∈ e.items.l := mem_drop hd
    have hb := hs x hm
    simp only [List.length_cons] at h1 hl
    unfold r_CheckAreas_5
    rw [hx]
    cases hw : decide (b < x.now.lo) with
    | true =>
      have := of_decide_eq_true hw
      simp only [cond_true]
      exact ⟨fun h => by have := h.1; omega, fun _ => .inl ⟨_, _, _, rfl⟩⟩
    | false =>
      have := of_decide_eq_false hw
      cases hw2 : decide (b > x.now.hi) with
      | true =>
        have := of_decide_eq_true hw2
        simp only [cond_true, cond_false]
        exact ⟨fun h => by have := h.1; omega, fun _ => .inr ⟨_, _, _, rfl⟩⟩
      | false =>
        have := of_decide_eq_false hw2
        simp only [cond_false]
        rw [w64_eq (by omega) (by omega)]
        have ih := kareasR5 hs hn a (i + 1) l (n + b) (zA hd) (by omega) (by omega) (by omega)
        refine ⟨fun h => ?_, fun h => ih.2 fun h2 => h ⟨⟨by omega, by omega⟩, h2⟩⟩
        rw [ih.1 h.2]
        simp only [tot]
        congr 1
        omega
theorem krareas_iff {e : S_Estate} (h : V e) (a : GS Int) : (r_CheckAreas e a = 0 ↔ Allowed e a.l) ∧ (r_CheckAreas e a = 0 ∨ r_CheckAreas e a = 80) := by
  unfold r_CheckAreas
  rw [valid_iff.2 h]
  have h2 := h.n2
  simp only [cond_true]
  cases hl : (((a.l.length : Nat) : Int) != ((e.items.l.length : Nat) : Int)) with
  | true =>
    have := y0 hl
    simp only [cond_true]
    exact ⟨⟨fun h => by omega, fun h => by have := h.1.len; omega⟩, .inr trivial⟩
  | false =>
    have hl' := zF hl
    simp only [cond_false]
    have k := kareasR5 h.sp h2 a.l 0 e.items.l 0 List.drop_zero (by omega) (by omega) (by omega)
    by_cases hin : In e.items.l a.l
    · rw [k.1 hin]
      simp only [Int.zero_add]
      by_cases h3 : tot a.l < e.whole.lo
      · rw [decide_eq_true h3]; exact ⟨⟨fun h => by simp at h, fun h => by have := h.2.1; omega⟩, .inr rfl⟩
      · rw [decide_eq_false h3]
        by_cases h4 : tot a.l > e.whole.hi
        · rw [decide_eq_true h4]; exact ⟨⟨fun h => by simp at h, fun h => by have := h.2.2; omega⟩, .inr rfl⟩
        · rw [decide_eq_false h4]; exact ⟨⟨fun _ => ⟨hin, by omega, by omega⟩, fun _ => rfl⟩, .inl rfl⟩
    · rcases k.2 hin with ⟨j, x, m, hj⟩ | ⟨j, x, m, hj⟩ <;> rw [hj] <;> exact ⟨⟨fun h => by simp at h, fun h => absurd h.1 hin⟩, .inr rfl⟩
theorem kareas_eq (e : S_Estate) (a : GS Int) : r_CheckAreas e a = zO e a := by
  cases hv : zR e with
  | false =>
    have h1 : zo e = 80 := by rw [check_valid, hv]; rfl
    unfold r_CheckAreas zO
    rw [hv, h1]
    rfl
  | true =>
    have h := valid_iff.1 hv
    have h1 := krareas_iff h a
    have h2 := areas_iff h a
    by_cases hA : Allowed e a.l
    · rw [h1.1.2 hA, h2.1.2 hA]
    · have n1 : ¬ r_CheckAreas e a = 0 := fun h => hA (h1.1.1 h)
      have n2 : ¬ zO e a = 0 := fun h => hA (h2.1.1 h)
      omega
theorem ksum_eq (e : S_Estate) : r_Sum e = zr e := by
  cases hv : zR e with
  | false =>
    have h1 : zo e = 80 := by rw [check_valid, hv]; rfl
    unfold r_Sum zr
    rw [hv, h1]
    rfl
  | true =>
    have h := valid_iff.1 hv
    rw [sum_eq h]
    unfold r_Sum
    rw [hv, rall_eq, all_eq h.sp h.n2, imax_eq, imin_eq]
    rfl
theorem kpart_eq (e : S_Estate) (item : Int) : r_Part e item = orders_Part e item := by
  have hf : r_first e (GS.some [item]) = zp e (GS.some [item]) := kfirst_eq (by simp [GS.some])
  cases hv : zR e with
  | false =>
    have h1 : zo e = 80 := by rw [check_valid, hv]; rfl
    unfold r_Part orders_Part
    rw [hf]
    unfold zp
    rw [h1]
    rfl
  | true =>
    have h := valid_iff.1 hv
    have hb := sums_bd h.sp
    have h2 := h.n2; have := h.w0; have := h.w1; have := h.w2
    by_cases hi : 0 ≤ item ∧ item < (e.items.l.length : Int)
    · rw [partF_eq h hi.1 hi.2]
      unfold r_Part
      rw [hf, right_of (items := GS.some [item]) (by simp [GS.some]) h (show inc (-1) _ [item] from ⟨by omega, hi.1, hi.2, trivial⟩)]
      have h3 := h.sp _ (at_mem hi.1 hi.2)
      rw [rall_eq, all_eq h.sp h.n2, imax_eq, imin_eq]
      simp only [bne_self_eq_false, cond_false]
      rw [w64_eq (n := sHi e.items.l - (e.items.at item).now.hi) (by omega) (by omega), w64_eq (n := sLo e.items.l - (e.items.at item).now.lo) (by omega) (by omega), w64_eq (by omega) (by omega), w64_eq (by omega) (by omega)]
      rfl
    · have hw : zt item 0 (w64 (((e.items.l.length : Nat) : Int) - 1)) = false := by
        rw [w64_eq (by omega) (by omega), within_eq]; simp; omega
      unfold r_Part orders_Part
      rw [hf, hw]
      unfold zp
      rw [check_iff.2 h]
      simp only [GS.some, bne_self_eq_false, cond_false]
      unfold orders_right_5
      rw [hw]
      rfl
theorem kclosed_eq (e : S_Estate) : r_Closed e = zG e := by
  cases hv : zR e with
  | false =>
    have h1 : zo e = 80 := by rw [check_valid, hv]; rfl
    unfold r_Closed zG zr
    rw [hv, h1]
    rfl
  | true =>
    have h := valid_iff.1 hv
    have key : ∀ (l : List S_Item) (i : Nat) (v : List S_Item), i + l.length ≤ e.items.l.length → ∃ w, r_Closed_5 e l i v = .x0 w ∧ zX e l i v = .x0 w := by
      intro l
      induction l with
      | nil => intro i v _; exact ⟨v, rfl, rfl⟩
      | cons x l ih =>
        intro i v hi
        simp only [List.length_cons] at hi
        unfold r_Closed_5 zX
        have h0 : 0 ≤ (i : Int) := by omega
        have h1 : (i : Int) < (e.items.l.length : Int) := by omega
        rw [kpart_eq, partF_eq h h0 h1, part_eq h rfl (at_mem h0 h1)]
        exact ih _ _ (by omega)
    obtain ⟨w, h1, h2⟩ := key e.items.l 0 e.items.l (by omega)
    unfold r_Closed zG
    rw [hv, sum_eq h, ksum_eq, sum_eq h, h1, h2]
    rfl
/-! ### measurements -/
theorem cont_iff {s : GS Int} : zQ s = false ↔ OkShown s.l := by
  refine ⟨fun h => ?_, contF_eq⟩
  have key : ∀ (l : List Int) (i : Nat), ¬ OkShown l → ∃ j x, slices_IndexFunc_2 l i = .x1 j x := by
    intro l
    induction l with
    | nil => intro i hn; exact absurd (fun s hs => (by cases hs)) hn
    | cons y l ih =>
      intro i hn
      unfold slices_IndexFunc_2 orders_Measured_1
      cases hw : zt y (-1048576) 1074790400 with
      | false => exact ⟨i, y, rfl⟩
      | true =>
        have hw' := within_iff.1 hw
        refine ih (i + 1) fun hl => hn fun s hs => ?_
        rcases List.mem_cons.1 hs with rfl | hs
        · exact hw'
        · exact hl s hs
  by_cases hk : OkShown s.l
  · exact hk
  · exfalso
    obtain ⟨j, x, hj⟩ := key s.l 0 hk
    unfold zQ slices_IndexFunc at h
    rw [hj] at h
    simp only [] at h
    rw [decide_eq_true (by omega : ((j : Nat) : Int) ≥ 0)] at h
    cases h
theorem rmeas7_iff : ∀ (l : List Int) (i : Nat), r_Measured_7 l i = .x0 ↔ OkShown l
  | [], i => ⟨fun _ s hs => (by cases hs), fun _ => rfl⟩
  | x :: l, i => by
    unfold r_Measured_7
    have ih := rmeas7_iff l (i + 1)
    by_cases h1 : x < -1048576
    · rw [decide_eq_true h1]
      exact ⟨fun h => (by cases h), fun h => (by have := h x List.mem_cons_self; omega)⟩
    · rw [decide_eq_false h1]
      by_cases h2 : x > 1074790400
      · rw [decide_eq_true h2]
        exact ⟨fun h => (by cases h), fun h => (by have := h x List.mem_cons_self; omega)⟩
      · rw [decide_eq_false h2]
        simp only [cond_false, ih]
        constructor
        · intro h s hs
          rcases List.mem_cons.1 hs with rfl | hs
          · omega
          · exact h s hs
        · intro h s hs; exact h s (List.mem_cons_of_mem _ hs)
theorem r13_keep {e : S_Estate} {shown : GS Int} {n : Int} : ∀ (its : List Int) (i : Nat) (v : List S_Item) (p : Int), -1 ≤ p → inc p n its → ∃ w, r_Measured_13 e shown its i v = .x0 w ∧ ∀ k : Nat, (k : Int) ≤ p → w[k]? = v[k]?
  | [], i, v, p, _, _ => ⟨v, rfl, fun _ _ => rfl⟩
  | x :: its, i, v, p, hp, hi => by
    unfold r_Measured_13
    obtain ⟨w, h1, h2⟩ := r13_keep its (i + 1) _ x (by have := hi.1; omega) hi.2.2.2
    refine ⟨w, h1, fun k hk => ?_⟩
    have := hi.1
    rw [h2 k (by omega), List.getElem?_set_ne (by omega)]
theorem kmeas {e : S_Estate} {shown : GS Int} {n : Int} (hs : OkShown shown.l) : ∀ (its : List Int) (i : Nat) (v : List S_Item) (p : Int), -1 ≤ p → inc p n its → i + its.length ≤ shown.l.length → (∀ j ∈ its, v[j.toNat]? = some (e.items.at j)) → (∀ y ∈ v, OkItem y) →
    (∃ w, zC shown its i v = .x0 w ∧ r_Measured_13 e shown its i v = .x0 w ∧ w.length = v.length ∧ ∀ y ∈ w, OkItem y) ∨
    (∃ a b c w, zC shown its i v = .x1 a b c ∧ r_Measured_13 e shown its i v = .x0 w ∧ ∃ y ∈ w, ¬ OkItem y)
  | [], i, v, p, _, _, _, _, hok => .inl ⟨v, rfl, rfl, rfl, hok⟩
  | x :: its, i, v, p, hp, hi, hl, hv, hok => by
    have hx := hv x List.mem_cons_self
    have hy : OkItem (e.items.at x) := hok _ (List.mem_of_getElem? hx)
    obtain ⟨a1, a2, a3, a4, a5, a6, a7⟩ := hy
    simp only [List.length_cons] at hl
    have hsm := hs _ (at_mem (s := shown) (i := (i : Int)) (by omega) (by omega))
    have hxt : x.toNat < v.length := by
      rcases Nat.lt_or_ge x.toNat v.length with h | h
      · exact h
      · rw [List.getElem?_eq_none h] at hx; cases hx
    have hi1 := hi.1; have hi2 := hi.2.1
    have e1 : (⟨(⟨imax ((e.items.at x).now.lo) (w64 (shown.at ((i : Nat) : Int) - (e.items.at x).error)), zV ((e.items.at x).now.hi) (w64 (shown.at ((i : Nat) : Int) + (e.items.at x).error))⟩ : S_Span), (v.getD x.toNat default).cost, (v.getD x.toNat default).error⟩ : S_Item) = nar (e.items.at x) (shown.at (i : Int)) := by
      rw [getD_of hx, imax_eq, imin_eq, w64_eq (by omega) (by omega), w64_eq (by omega) (by omega)]
      rfl
    conv => arg 1; arg 1; intro w; unfold r_Measured_13
    conv => arg 2; arg 1; intro a; arg 1; intro b; arg 1; intro c; arg 1; intro w; unfold r_Measured_13
    rw [e1]
    by_cases hne : max (e.items.at x).now.lo (shown.at (i : Int) - (e.items.at x).error) ≤ min (e.items.at x).now.hi (shown.at (i : Int) + (e.items.at x).error)
    · have hz : OkItem (nar (e.items.at x) (shown.at (i : Int))) := by
        refine ⟨?_, ?_, ?_, a4, a5, a6, a7⟩ <;> simp only [nar] <;> omega
      rw [meas_step hx ⟨a1, a2, a3, a4, a5, a6, a7⟩ rfl hsm hne]
      have ih := kmeas (e := e) hs its (i + 1) (v.set x.toNat (nar (e.items.at x) (shown.at (i : Int)))) x (by omega) hi.2.2.2 (by omega) (keep_set hi.2.1 hi.2.2.2 (fun j hj => hv j (List.mem_cons_of_mem _ hj))) (ok_set hok hz)
      rw [List.length_set] at ih
      exact ih
    · right
      obtain ⟨w, h1, h2⟩ := r13_keep (e := e) (shown := shown) its (i + 1) (v.set x.toNat (nar (e.items.at x) (shown.at (i : Int)))) x (by omega) hi.2.2.2
      have h3 := h2 x.toNat (by omega)
      rw [List.getElem?_set_self hxt] at h3
      refine ⟨i, x, v, w, ?_, h1, _, List.mem_of_getElem? h3, fun hk => ?_⟩
      · unfold zC
        rw [getD_of hx, w64_eq (n := shown.at (i : Int) - (e.items.at x).error) (by omega) (by omega), w64_eq (n := shown.at (i : Int) + (e.items.at x).error) (by omega) (by omega), common_eq]
        simp only []
        rw [decide_eq_false hne]
        rfl
      · have := hk.2.1
        simp only [nar] at this
        omega
theorem kmeasured_eq {e : S_Estate} {items shown : GS Int} (hL : items.l.length ≤ 9223372036854775807) : r_Measured e items shown = zJ e items shown := by
  unfold r_Measured zJ
  rw [kfirst_eq hL]
  by_cases h0 : zp e items = 0
  · obtain ⟨hc, hi⟩ := (right_iff hL).1 h0
    have h := check_iff.1 hc
    have hn1 := h.n1; have hn2 := h.n2; have := h.w1
    rw [h0]
    simp only [bne_self_eq_false, cond_false]
    cases hl : (((shown.l.length : Nat) : Int) != ((items.l.length : Nat) : Int)) with
    | true => rfl
    | false =>
      have hl' := zF hl
      simp only [cond_false]
      by_cases hs : OkShown shown.l
      · rw [(rmeas7_iff _ 0).2 hs, cont_iff.2 hs]
        simp only [cond_false]
        rcases kmeas (e := e) hs items.l 0 e.items.l (-1) (by omega) hi (by omega) (all_got hi) h.it with ⟨w, h1, h2, h3, h4⟩ | ⟨a, b, c, w, h1, h2, y, hy, hk⟩
        · rw [h1, h2]
          simp only []
          have hsp : OkSpans (⟨GS.some w, e.whole⟩ : S_Estate).items.l := okSpans_of h4
          have hb := sums_bd hsp
          rw [all_eq hsp (by show w.length ≤ 12; omega), common_eq]
          simp only []
          have hV : zR (⟨GS.some w, e.whole⟩ : S_Estate) = decide (max (sLo (⟨GS.some w, e.whole⟩ : S_Estate).items.l) e.whole.lo ≤ min (sHi (⟨GS.some w, e.whole⟩ : S_Estate).items.l) e.whole.hi) := by
            by_cases hm : max (sLo (⟨GS.some w, e.whole⟩ : S_Estate).items.l) e.whole.lo ≤ min (sHi (⟨GS.some w, e.whole⟩ : S_Estate).items.l) e.whole.hi
            · rw [decide_eq_true hm]
              exact valid_iff.2 ⟨by show 1 ≤ w.length; omega, by show w.length ≤ 12; omega, h.w0, h.w1, h.w2, h4, by show sLo (⟨GS.some w, e.whole⟩ : S_Estate).items.l ≤ e.whole.hi; omega, by show e.whole.lo ≤ sHi (⟨GS.some w, e.whole⟩ : S_Estate).items.l; omega⟩
            · rw [decide_eq_false hm]
              cases hv : zR (⟨GS.some w, e.whole⟩ : S_Estate) with
              | false => rfl
              | true =>
                exfalso
                have hV := valid_iff.1 hv
                have q1 : sLo (⟨GS.some w, e.whole⟩ : S_Estate).items.l ≤ e.whole.hi := hV.lo
                have q2 : e.whole.lo ≤ sHi (⟨GS.some w, e.whole⟩ : S_Estate).items.l := hV.hi
                omega
          rw [hV]
        · rw [h1, h2]
          simp only []
          have hV : zR (⟨GS.some w, e.whole⟩ : S_Estate) = false := by
            cases hv : zR (⟨GS.some w, e.whole⟩ : S_Estate) with
            | false => rfl
            | true => exact absurd ((valid_iff.1 hv).it y hy) hk
          rw [hV]
          rfl
      · have c1 : zQ shown = true := by
          cases hc : zQ shown with
          | true => rfl
          | false => exact absurd (cont_iff.1 hc) hs
        rw [c1]
        simp only [cond_true]
        cases h7 : r_Measured_7 shown.l 0 with
        | x0 => exact absurd ((rmeas7_iff _ 0).1 h7) hs
        | x1 i x => rfl
        | x2 i x => rfl
  · have : (zp e items != 0) = true := by simpa using h0
    rw [this]
    rfl
theorem known_true (e : S_Estate) (areas : GS Int) (item : Int) (items shown : GS Int) (hL : items.l.length ≤ 9223372036854775807) : l_OrdersKnown e areas item items shown = true := by
  unfold l_OrdersKnown
  cases l_few e (GS.some [areas, items, shown]) with
  | false => rfl
  | true =>
    rw [kcheck_eq, kareas_eq, ksum_eq, kpart_eq, kclosed_eq, kmeasured_eq hL, same_self, same_self]
    simp
theorem law_known (e : S_Estate) (areas : GS Int) (item : Int) (items shown : GS Int) : e.items.l.length ≤ 9223372036854775807 → areas.l.length ≤ 9223372036854775807 → R64 item → items.l.length ≤ 9223372036854775807 → shown.l.length ≤ 9223372036854775807 → (lim cfg).pure 6 [S_Estate.D e, GS.D I 1 areas, I item, GS.D I 1 items, GS.D I 1 shown] = some (B true) := fun h0 h1 _ h2 h3 => by
  rw [T_l_OrdersKnown e areas item items shown h2 h0 h1 h3, known_true e areas item items shown h2]
end Go.VS
