/- Nothing of a statement is proved in this text alone: it is part 4 of the proof's own tools, an evaluator of the code over deep values, its soundness, and what it makes of this seat's functions. Conditions: none beyond the statement's own. -/
import Derived.Test.YtnifoeahomkdlaaVsOMb3
set_option linter.unusedSimpArgs false
set_option linter.unusedVariables false
namespace Go.VS
open Go Go.Proofs
set_option maxHeartbeats 0
set_option linter.unusedSimpArgs false
set_option linter.unusedVariables false
def sd110 (l : List Int) (q4_0 : Int) (v4_0 : Int) (v4_1 : List Int) : St := ⟨49, [(7, I (w64 (v4_0 - 1))), (32, I (w64 (v4_0 - 1))), (31, I v4_0), (48, .lref 3 ((w64 (v4_0 - 1)).toNat) 1 0), (47, .lref 3 ((v4_0).toNat) 1 0), (46, I (v4_1.getD ((v4_0).toNat) default)), (45, .lref 3 ((v4_0).toNat) 1 0), (44, I v4_0), (43, .lsl 3 0 l.length 1 none), (42, I (v4_1.getD ((w64 (v4_0 - 1)).toNat) default)), (41, .lref 3 ((w64 (v4_0 - 1)).toNat) 1 0), (40, I (w64 (v4_0 - 1))), (39, I v4_0), (38, .lsl 3 0 l.length 1 none), (37, I (w64 (v4_0 - 1))), (36, I v4_0), (35, .lsl 3 0 l.length 1 none), (34, I v4_0), (33, .lsl 3 0 l.length 1 none), (30, B true), (29, B true), (28, I (v4_1.getD ((w64 (v4_0 - 1)).toNat) default)), (27, .lref 3 ((w64 (v4_0 - 1)).toNat) 1 0), (26, I (w64 (v4_0 - 1))), (25, I v4_0), (24, .lsl 3 0 l.length 1 none), (23, I (v4_1.getD ((v4_0).toNat) default)), (22, .lref 3 ((v4_0).toNat) 1 0), (21, I v4_0), (20, .lsl 3 0 l.length 1 none), (19, B true), (18, B true), (17, I 0), (16, I v4_0), (0, .lsl 3 0 l.length 1 none), (1, I 0), (2, I ((l.length : Nat) : Int)), (6, I q4_0), (7, I v4_0)], [(3, ⟨((v4_1.set ((v4_0).toNat) (v4_1.getD ((w64 (v4_0 - 1)).toNat) default)).set ((w64 (v4_0 - 1)).toNat) (v4_1.getD ((v4_0).toNat) default)).map I, 1, false⟩)], 4, 4⟩

inductive LR_isorta_4 where
  | x0 (v4_0 : Int) (v4_1 : List Int)
  | x1 (v4_0 : Int) (v4_1 : List Int)
  | out
instance : Inhabited LR_isorta_4 := ⟨.out⟩
def isorta_4 : Nat → Int → (List Int) → LR_isorta_4
  | 0, _, _ => .out
  | rest4 + 1, v4_0, v4_1 =>
    bif decide (v4_0 > 0) then
      bif (cmp_Less (v4_1.getD ((v4_0).toNat) default) (v4_1.getD ((w64 (v4_0 - 1)).toNat) default)) then
        isorta_4 rest4 (w64 (v4_0 - 1)) ((v4_1.set ((v4_0).toNat) (v4_1.getD ((w64 (v4_0 - 1)).toNat) default)).set ((w64 (v4_0 - 1)).toNat) (v4_1.getD ((v4_0).toNat) default))
      else
        .x0 v4_0 v4_1
    else
      .x1 v4_0 v4_1
def lr_isorta_4 (l : List Int) (q4_0 : Int) : LR_isorta_4 → Exit × St
  | .x0 v4_0 v4_1 => ((.exit 2), ⟨49, [(30, B false), (29, B false), (28, I (v4_1.getD ((w64 (v4_0 - 1)).toNat) default)), (27, .lref 3 ((w64 (v4_0 - 1)).toNat) 1 0), (26, I (w64 (v4_0 - 1))), (25, I v4_0), (24, .lsl 3 0 l.length 1 none), (23, I (v4_1.getD ((v4_0).toNat) default)), (22, .lref 3 ((v4_0).toNat) 1 0), (21, I v4_0), (20, .lsl 3 0 l.length 1 none), (19, B true), (18, B true), (17, I 0), (16, I v4_0), (0, .lsl 3 0 l.length 1 none), (1, I 0), (2, I ((l.length : Nat) : Int)), (6, I q4_0), (7, I v4_0)], [(3, ⟨v4_1.map I, 1, false⟩)], 4, 4⟩)
  | .x1 v4_0 v4_1 => ((.exit 2), ⟨49, [(30, B false), (29, .tup []), (28, .tup []), (27, .tup []), (26, .tup []), (25, .tup []), (24, .tup []), (23, .tup []), (22, .tup []), (21, .tup []), (20, .tup []), (19, B false), (18, B false), (17, I 0), (16, I v4_0), (0, .lsl 3 0 l.length 1 none), (1, I 0), (2, I ((l.length : Nat) : Int)), (6, I q4_0), (7, I v4_0)], [(3, ⟨v4_1.map I, 1, false⟩)], 4, 4⟩)
  | .out => (.normal, ⟨0, [], [], 0, 0⟩)
def iv_isorta_4 (l : List Int) (q4_0 : Int) : LR_isorta_4 → Prop
  | .x0 v4_0 v4_1 => (0 ≤ v4_0 ∧ v4_0 < ((l.length : Nat) : Int) ∧ l.length ≤ 12) ∧ (v4_1.length = l.length)
  | .x1 v4_0 v4_1 => (0 ≤ v4_0 ∧ v4_0 < ((l.length : Nat) : Int) ∧ l.length ≤ 12) ∧ (v4_1.length = l.length)
  | .out => True
def isorta_4_f_o1 (v4_0 : Int) (v4_1 : List Int) : List Ora := [.dec true, .op (some 22) ⟨.lref 3 ((v4_0).toNat) 1 0, [], [], 4⟩, .op (some 23) ⟨I (v4_1.getD ((v4_0).toNat) default), [], [3], 4⟩, .op (some 27) ⟨.lref 3 ((w64 (v4_0 - 1)).toNat) 1 0, [], [], 4⟩, .op (some 28) ⟨I (v4_1.getD ((w64 (v4_0 - 1)).toNat) default), [], [3], 4⟩, .pure (B (cmp_Less (v4_1.getD ((v4_0).toNat) default) (v4_1.getD ((w64 (v4_0 - 1)).toNat) default)))]
theorem lp_isorta_4 (l : List Int) (q4_0 : Int) : ∀ (rest4 : Nat) (v4_0 : Int) (v4_1 : List Int) (hf4 : isorta_4 rest4 v4_0 v4_1 ≠ .out) (hj : 0 ≤ v4_0 ∧ v4_0 < ((l.length : Nat) : Int) ∧ l.length ≤ 12) (hl4_v4_1 : v4_1.length = l.length), (lim cfg).loop 100 lp100_4 ⟨49, [(0, .lsl 3 0 l.length 1 none), (1, I 0), (2, I ((l.length : Nat) : Int)), (6, I q4_0), (7, I v4_0)], [(3, ⟨v4_1.map I, 1, false⟩)], 4, 4⟩ = some (lr_isorta_4 l q4_0 (isorta_4 rest4 v4_0 v4_1)) := by
  intro rest4
  induction rest4 with
  | zero =>
    intro v4_0 v4_1 hf4 hj hl4_v4_1
    exact absurd rfl hf4
  | succ rest4 ih =>
    intro v4_0 v4_1 hf4 hj hl4_v4_1
    unfold isorta_4 at hf4 ⊢
    revert hf4
    cases h8 : decide (v4_0 > 0) with
    | true =>
      have g8 := of_decide_eq_true h8
      have p1 := (idx_row (C := cfg) (nxt := 4) (t := 37) (ty := ty37) (te := ty3) (e := 3) (o := 3) (len := l.length) (sz := 1) (cap := none) (i := v4_0) (by kernel_rfl) rfl (by kernel_rfl) rfl (by first | assumption | omega) (by first | assumption | omega))
      have p2 := (load_row (C := cfg) (objs := [(3, ⟨v4_1.map I, 1, false⟩)]) (nxt := 4) (t := 3) (ty := ty3) (o := 3) (n := (v4_0).toNat) (sz := 1) (sub := 0) (ob := ⟨v4_1.map I, 1, false⟩) (e := I (v4_1.getD ((v4_0).toNat) default)) (d := I (v4_1.getD ((v4_0).toNat) default)) (by kernel_rfl) (by kernel_rfl) rfl (row_get (f := I) (by first | assumption | omega)) (by kernel_rfl))
      have p3 := (idx_row (C := cfg) (nxt := 4) (t := 37) (ty := ty37) (te := ty3) (e := 3) (o := 3) (len := l.length) (sz := 1) (cap := none) (i := w64 (v4_0 - 1)) (by kernel_rfl) rfl (by kernel_rfl) rfl (by first | assumption | omega | (simp only [zc] at * <;> omega)) (by first | assumption | omega | (simp only [zc] at * <;> omega)))
      have p4 := (load_row (C := cfg) (objs := [(3, ⟨v4_1.map I, 1, false⟩)]) (nxt := 4) (t := 3) (ty := ty3) (o := 3) (n := (w64 (v4_0 - 1)).toNat) (sz := 1) (sub := 0) (ob := ⟨v4_1.map I, 1, false⟩) (e := I (v4_1.getD ((w64 (v4_0 - 1)).toNat) default)) (d := I (v4_1.getD ((w64 (v4_0 - 1)).toNat) default)) (by kernel_rfl) (by kernel_rfl) rfl (row_get (f := I) (by first | assumption | omega | (simp only [zc] at * <;> omega))) (by kernel_rfl))
      have p5 := (T_cmp_Less (v4_1.getD ((v4_0).toNat) default) (v4_1.getD ((w64 (v4_0 - 1)).toNat) default))
      cases h9 : (cmp_Less (v4_1.getD ((v4_0).toNat) default) (v4_1.getD ((w64 (v4_0 - 1)).toNat) default)) with
      | true =>
        intro hf4
        exact po_turn' (ks := [0, 1, 2, 6, 7]) (st' := (sd110 l q4_0 v4_0 v4_1)) ((isorta_4_f_o1 v4_0 v4_1) ++ [.dec true, .op (some 41) ⟨.lref 3 ((w64 (v4_0 - 1)).toNat) 1 0, [], [], 4⟩, .op (some 42) ⟨I (v4_1.getD ((w64 (v4_0 - 1)).toNat) default), [], [3], 4⟩, .op (some 45) ⟨.lref 3 ((v4_0).toNat) 1 0, [], [], 4⟩, .op (some 46) ⟨I (v4_1.getD ((v4_0).toNat) default), [], [3], 4⟩, .op (some 47) ⟨.lref 3 ((v4_0).toNat) 1 0, [], [], 4⟩, .stS 3 ⟨.tup [], [(3, some ⟨(v4_1.set ((v4_0).toNat) (v4_1.getD ((w64 (v4_0 - 1)).toNat) default)).map I, 1, false⟩)], [3], 4⟩, .op (some 48) ⟨.lref 3 ((w64 (v4_0 - 1)).toNat) 1 0, [], [], 4⟩, .stS 3 ⟨.tup [], [(3, some ⟨((v4_1.set ((v4_0).toNat) (v4_1.getD ((w64 (v4_0 - 1)).toNat) default)).set ((w64 (v4_0 - 1)).toNat) (v4_1.getD ((v4_0).toNat) default)).map I, 1, false⟩)], [3], 4⟩]) (And.intro (store_row (C := cfg) (objs := [(3, ⟨(v4_1.set ((v4_0).toNat) (v4_1.getD ((w64 (v4_0 - 1)).toNat) default)).map I, 1, false⟩)]) (nxt := 4) (t := 3) (ty := ty3) (o := 3) (n := (w64 (v4_0 - 1)).toNat) (sz := 1) (sub := 0) (els := (v4_1.set ((v4_0).toNat) (v4_1.getD ((w64 (v4_0 - 1)).toNat) default)).map I) (els' := ((v4_1.set ((v4_0).toNat) (v4_1.getD ((w64 (v4_0 - 1)).toNat) default)).set ((w64 (v4_0 - 1)).toNat) (v4_1.getD ((v4_0).toNat) default)).map I) (e := I ((v4_1.set ((v4_0).toNat) (v4_1.getD ((w64 (v4_0 - 1)).toNat) default)).getD ((w64 (v4_0 - 1)).toNat) default)) (e' := I (v4_1.getD ((v4_0).toNat) default)) (v := I (v4_1.getD ((v4_0).toNat) default)) (by kernel_rfl) (by kernel_rfl) (row_get (f := I) (by first | assumption | omega | (with_reducible exact zr) | (with_reducible exact Nat.le_trans zA (by omega)) | (simp only [zc] at * <;> omega) | (simp only [zd, za, zb, z9, zg, GS.some_l, List.length_set, List.length_append, List.length_cons, List.length_nil] at * <;> first | with_reducible assumption | omega) | (simp only [zd, za, zb, z9, zg, GS.some_l, List.length_set, List.length_append, List.length_cons, List.length_nil, zc] at * <;> first | with_reducible assumption | omega) | (simp at * <;> omega))) rfl (by kernel_rfl) rfl (by kernel_rfl) (row_set (f := I))) (And.intro (idx_row (C := cfg) (nxt := 4) (t := 37) (ty := ty37) (te := ty3) (e := 3) (o := 3) (len := l.length) (sz := 1) (cap := none) (i := w64 (v4_0 - 1)) (by kernel_rfl) rfl (by kernel_rfl) rfl (by first | assumption | omega | (simp only [zc] at * <;> omega)) (by first | assumption | omega | (simp only [zc] at * <;> omega))) (And.intro (store_row (C := cfg) (objs := [(3, ⟨v4_1.map I, 1, false⟩)]) (nxt := 4) (t := 3) (ty := ty3) (o := 3) (n := (v4_0).toNat) (sz := 1) (sub := 0) (els := v4_1.map I) (els' := (v4_1.set ((v4_0).toNat) (v4_1.getD ((w64 (v4_0 - 1)).toNat) default)).map I) (e := I (v4_1.getD ((v4_0).toNat) default)) (e' := I (v4_1.getD ((w64 (v4_0 - 1)).toNat) default)) (v := I (v4_1.getD ((w64 (v4_0 - 1)).toNat) default)) (by kernel_rfl) (by kernel_rfl) (row_get (f := I) (by first | assumption | omega)) rfl (by kernel_rfl) rfl (by kernel_rfl) (row_set (f := I))) (And.intro (idx_row (C := cfg) (nxt := 4) (t := 37) (ty := ty37) (te := ty3) (e := 3) (o := 3) (len := l.length) (sz := 1) (cap := none) (i := v4_0) (by kernel_rfl) rfl (by kernel_rfl) rfl (by first | assumption | omega) (by first | assumption | omega)) (And.intro (load_row (C := cfg) (objs := [(3, ⟨v4_1.map I, 1, false⟩)]) (nxt := 4) (t := 3) (ty := ty3) (o := 3) (n := (v4_0).toNat) (sz := 1) (sub := 0) (ob := ⟨v4_1.map I, 1, false⟩) (e := I (v4_1.getD ((v4_0).toNat) default)) (d := I (v4_1.getD ((v4_0).toNat) default)) (by kernel_rfl) (by kernel_rfl) rfl (row_get (f := I) (by first | assumption | omega)) (by kernel_rfl)) (And.intro (idx_row (C := cfg) (nxt := 4) (t := 37) (ty := ty37) (te := ty3) (e := 3) (o := 3) (len := l.length) (sz := 1) (cap := none) (i := v4_0) (by kernel_rfl) rfl (by kernel_rfl) rfl (by first | assumption | omega) (by first | assumption | omega)) (And.intro (load_row (C := cfg) (objs := [(3, ⟨v4_1.map I, 1, false⟩)]) (nxt := 4) (t := 3) (ty := ty3) (o := 3) (n := (w64 (v4_0 - 1)).toNat) (sz := 1) (sub := 0) (ob := ⟨v4_1.map I, 1, false⟩) (e := I (v4_1.getD ((w64 (v4_0 - 1)).toNat) default)) (d := I (v4_1.getD ((w64 (v4_0 - 1)).toNat) default)) (by kernel_rfl) (by kernel_rfl) rfl (row_get (f := I) (by first | assumption | omega | (simp only [zc] at * <;> omega))) (by kernel_rfl)) (And.intro (idx_row (C := cfg) (nxt := 4) (t := 37) (ty := ty37) (te := ty3) (e := 3) (o := 3) (len := l.length) (sz := 1) (cap := none) (i := w64 (v4_0 - 1)) (by kernel_rfl) rfl (by kernel_rfl) rfl (by first | assumption | omega | (simp only [zc] at * <;> omega)) (by first | assumption | omega | (simp only [zc] at * <;> omega))) (And.intro h9 (And.intro p5 (And.intro p4 (And.intro p3 (And.intro p2 (And.intro p1 (And.intro h8 trivial))))))))))))))) (by kernel_rfl) (by (simp only [sd110, go_sem, Nat.reduceAdd, Nat.reduceEqDiff, Nat.reduceLT, Nat.reduceLeDiff, bI2, zx.idsL, zx.renL, zx.snapAll, z7.idsL, z7.renL, z7.snapAll]) <;> rfl) (ih (w64 (v4_0 - 1)) ((v4_1.set ((v4_0).toNat) (v4_1.getD ((w64 (v4_0 - 1)).toNat) default)).set ((w64 (v4_0 - 1)).toNat) (v4_1.getD ((v4_0).toNat) default)) hf4 (by first | assumption | omega | (simp only [zc] at * <;> omega)) (by first | assumption | omega | (with_reducible exact zr) | (with_reducible exact Nat.le_trans zA (by omega)) | (simp only [zc] at * <;> omega) | (simp only [zd, za, zb, z9, zg, GS.some_l, List.length_set, List.length_append, List.length_cons, List.length_nil] at * <;> first | with_reducible assumption | omega) | (simp only [zd, za, zb, z9, zg, GS.some_l, List.length_set, List.length_append, List.length_cons, List.length_nil, zc] at * <;> first | with_reducible assumption | omega) | (simp at * <;> omega))) (by kernel_rfl)
      | false =>
        intro hf4
        exact zQ ((isorta_4_f_o1 v4_0 v4_1) ++ [.dec false]) (And.intro h9 (And.intro p5 (And.intro p4 (And.intro p3 (And.intro p2 (And.intro p1 (And.intro h8 trivial))))))) (by kernel_rfl)
    | false =>
      have g8 := of_decide_eq_false h8
      intro hf4
      exact zQ [.dec false] (And.intro h8 trivial) (by kernel_rfl)
theorem ivt_isorta_4 (l : List Int) (q4_0 : Int) : ∀ (rest4 : Nat) (v4_0 : Int) (v4_1 : List Int) (hf4 : isorta_4 rest4 v4_0 v4_1 ≠ .out) (hj : 0 ≤ v4_0 ∧ v4_0 < ((l.length : Nat) : Int) ∧ l.length ≤ 12) (hl4_v4_1 : v4_1.length = l.length), iv_isorta_4 l q4_0 (isorta_4 rest4 v4_0 v4_1) := by
  intro rest4
  induction rest4 with
  | zero =>
    intro v4_0 v4_1 hf4 hj hl4_v4_1
    exact absurd rfl hf4
  | succ rest4 ih =>
    intro v4_0 v4_1 hf4 hj hl4_v4_1
    unfold isorta_4 at hf4 ⊢
    revert hf4
    cases h8 : decide (v4_0 > 0) with
    | true =>
      have g8 := of_decide_eq_true h8
      cases h9 : (cmp_Less (v4_1.getD ((v4_0).toNat) default) (v4_1.getD ((w64 (v4_0 - 1)).toNat) default)) with
      | true =>
        intro hf4
        exact ih (w64 (v4_0 - 1)) ((v4_1.set ((v4_0).toNat) (v4_1.getD ((w64 (v4_0 - 1)).toNat) default)).set ((w64 (v4_0 - 1)).toNat) (v4_1.getD ((v4_0).toNat) default)) hf4 (by first | assumption | omega | (simp only [zc] at * <;> omega)) (by first | assumption | omega | (with_reducible exact zr) | (with_reducible exact Nat.le_trans zA (by omega)) | (simp only [zc] at * <;> omega) | (simp only [zd, za, zb, z9, zg, GS.some_l, List.length_set, List.length_append, List.length_cons, List.length_nil] at * <;> first | with_reducible assumption | omega) | (simp only [zd, za, zb, z9, zg, GS.some_l, List.length_set, List.length_append, List.length_cons, List.length_nil, zc] at * <;> first | with_reducible assumption | omega) | (simp at * <;> omega))
      | false =>
        intro hf4
        exact ⟨hj, hl4_v4_1⟩
    | false =>
      have g8 := of_decide_eq_false h8
      intro hf4
      exact ⟨hj, hl4_v4_1⟩

theorem isorta_ne : ∀ (n : Nat) (j : Int) (v : List Int), 0 ≤ j → j < n → j ≤ 12 → isorta_4 n j v ≠ .out
  | 0, j, v, h0, h1, _ => by omega
  | n + 1, j, v, h0, h1, h5 => by
    unfold isorta_4
    cases h2 : decide (j > 0) with
    | false => simp
    | true =>
      have := of_decide_eq_true h2
      cases h3 : cmp_Less (v.getD j.toNat default) (v.getD (w64 (j - 1)).toNat default) with
      | false => simp
      | true =>
        simp only [cond_true]
        exact isorta_ne n _ _ (by rw [w64_eq (by omega) (by omega)]; omega) (by rw [w64_eq (by omega) (by omega)]; omega) (by rw [w64_eq (by omega) (by omega)]; omega)

def sd117 (l : List Int) (i1 : Nat) (v4_0 : Int) (v4_1 : List Int) : St := ⟨49, [(6, I ((i1 + 1 : Nat) : Int)), (14, I ((i1 + 1 : Nat) : Int)), (13, I ((i1 : Nat) : Int)), (30, B false), (29, B false), (28, I (v4_1.getD ((w64 (v4_0 - 1)).toNat) default)), (27, .lref 3 ((w64 (v4_0 - 1)).toNat) 1 0), (26, I (w64 (v4_0 - 1))), (25, I v4_0), (24, .lsl 3 0 l.length 1 none), (23, I (v4_1.getD ((v4_0).toNat) default)), (22, .lref 3 ((v4_0).toNat) 1 0), (21, I v4_0), (20, .lsl 3 0 l.length 1 none), (19, B true), (18, B true), (17, I 0), (16, I v4_0), (0, .lsl 3 0 l.length 1 none), (1, I 0), (2, I ((l.length : Nat) : Int)), (6, I ((i1 : Nat) : Int)), (7, I v4_0)], [(3, ⟨v4_1.map I, 1, false⟩)], 4, 4⟩

def sd116 (l : List Int) (i1 : Nat) (v1_0 : List Int) : St := ⟨49, [(0, .lsl 3 0 l.length 1 none), (1, I 0), (2, I ((l.length : Nat) : Int)), (6, I ((i1 : Nat) : Int)), (7, I ((i1 : Nat) : Int))], [(3, ⟨v1_0.map I, 1, false⟩)], 4, 4⟩

def sd113 (l : List Int) (i1 : Nat) (v4_0 : Int) (v4_1 : List Int) : St := ⟨49, [(30, B false), (29, B false), (28, I (v4_1.getD ((w64 (v4_0 - 1)).toNat) default)), (27, .lref 3 ((w64 (v4_0 - 1)).toNat) 1 0), (26, I (w64 (v4_0 - 1))), (25, I v4_0), (24, .lsl 3 0 l.length 1 none), (23, I (v4_1.getD ((v4_0).toNat) default)), (22, .lref 3 ((v4_0).toNat) 1 0), (21, I v4_0), (20, .lsl 3 0 l.length 1 none), (19, B true), (18, B true), (17, I 0), (16, I v4_0), (0, .lsl 3 0 l.length 1 none), (1, I 0), (2, I ((l.length : Nat) : Int)), (6, I ((i1 : Nat) : Int)), (7, I v4_0)], [(3, ⟨v4_1.map I, 1, false⟩)], 4, 4⟩

def sd115 (l : List Int) (i1 : Nat) (v1_0 : List Int) : St := ⟨49, [(7, I ((i1 : Nat) : Int)), (15, I ((i1 : Nat) : Int)), (12, B true), (11, I ((l.length : Nat) : Int)), (10, I ((i1 : Nat) : Int)), (0, .lsl 3 0 l.length 1 none), (1, I 0), (2, I ((l.length : Nat) : Int)), (6, I ((i1 : Nat) : Int))], [(3, ⟨v1_0.map I, 1, false⟩)], 4, 4⟩

def sd118 (l : List Int) (i1 : Nat) (v4_0 : Int) (v4_1 : List Int) : St := ⟨49, [(6, I ((i1 + 1 : Nat) : Int)), (14, I ((i1 + 1 : Nat) : Int)), (13, I ((i1 : Nat) : Int)), (30, B false), (29, .tup []), (28, .tup []), (27, .tup []), (26, .tup []), (25, .tup []), (24, .tup []), (23, .tup []), (22, .tup []), (21, .tup []), (20, .tup []), (19, B false), (18, B false), (17, I 0), (16, I v4_0), (0, .lsl 3 0 l.length 1 none), (1, I 0), (2, I ((l.length : Nat) : Int)), (6, I ((i1 : Nat) : Int)), (7, I v4_0)], [(3, ⟨v4_1.map I, 1, false⟩)], 4, 4⟩

def sd114 (l : List Int) (i1 : Nat) (v4_0 : Int) (v4_1 : List Int) : St := ⟨49, [(30, B false), (29, .tup []), (28, .tup []), (27, .tup []), (26, .tup []), (25, .tup []), (24, .tup []), (23, .tup []), (22, .tup []), (21, .tup []), (20, .tup []), (19, B false), (18, B false), (17, I 0), (16, I v4_0), (0, .lsl 3 0 l.length 1 none), (1, I 0), (2, I ((l.length : Nat) : Int)), (6, I ((i1 : Nat) : Int)), (7, I v4_0)], [(3, ⟨v4_1.map I, 1, false⟩)], 4, 4⟩

inductive LR_isorta_1 where
  | x0 (i1 : Nat) (v1_0 : List Int)
instance : Inhabited LR_isorta_1 := ⟨.x0 default default⟩
def isorta_1 : Nat → Nat → (List Int) → LR_isorta_1
  | 0, i1, v1_0 => .x0 i1 v1_0
  | rest1 + 1, i1, v1_0 =>
    match isorta_4 (i1 + 1) ((i1 : Nat) : Int) v1_0 with
    | .x0 v4_0 v4_1 =>
      isorta_1 rest1 (i1 + 1) v4_1
    | .x1 v4_0 v4_1 =>
      isorta_1 rest1 (i1 + 1) v4_1
    | .out =>
      default
def lr_isorta_1 (l : List Int) : LR_isorta_1 → Exit × St
  | .x0 i1 v1_0 => ((.exit 0), ⟨49, [(12, B false), (11, I ((l.length : Nat) : Int)), (10, I ((i1 : Nat) : Int)), (0, .lsl 3 0 l.length 1 none), (1, I 0), (2, I ((l.length : Nat) : Int)), (6, I ((i1 : Nat) : Int))], [(3, ⟨v1_0.map I, 1, false⟩)], 4, 4⟩)
def iv_isorta_1 (l : List Int) : LR_isorta_1 → Prop
  | .x0 i1 v1_0 => (v1_0.length = l.length)
theorem lp_isorta_1 (l : List Int) : ∀ (rest1 : Nat) (i1 : Nat) (v1_0 : List Int) (hk1 : (((l.length : Nat) : Int) - ((i1 : Nat) : Int)).toNat = rest1) (hN1 : ((l.length : Nat) : Int) ≤ 9223372036854775807) (hn : l.length ≤ 12) (hl1_v1_0 : v1_0.length = l.length), (lim cfg).loop 100 lp100_1 ⟨49, [(0, .lsl 3 0 l.length 1 none), (1, I 0), (2, I ((l.length : Nat) : Int)), (6, I ((i1 : Nat) : Int))], [(3, ⟨v1_0.map I, 1, false⟩)], 4, 4⟩ = some (lr_isorta_1 l (isorta_1 rest1 i1 v1_0)) := by
  intro rest1
  induction rest1 with
  | zero =>
    intro i1 v1_0 hk1 hN1 hn hl1_v1_0
    unfold isorta_1
    exact zQ [.dec false] (And.intro (ct_no hk1) trivial) (by kernel_rfl)
  | succ rest1 ih =>
    intro i1 v1_0 hk1 hN1 hn hl1_v1_0
    have hlt1 := of_decide_eq_true (ct_at hk1)
    unfold isorta_1
    cases h10 : isorta_4 (i1 + 1) ((i1 : Nat) : Int) v1_0 with
    | x0 v4_0 v4_1 =>
      try dsimp only
      have hv_h10 := ivt_isorta_4 l ((i1 : Nat) : Int) (i1 + 1) ((i1 : Nat) : Int) v1_0 (isorta_ne (i1 + 1) _ _ (by omega) (by omega) (by omega)) (by first | assumption | omega) (by first | assumption | omega)
      rw [h10] at hv_h10
      obtain ⟨hv_h10_0, hv_h10_1⟩ := hv_h10
      try dsimp only [iv_isorta_4] at hv_h10_0
      try dsimp only [iv_isorta_4] at hv_h10_1
      exact po_turn' (ks := [0, 1, 2, 6]) (st' := (sd117 l i1 v4_0 v4_1)) [.dec true, .gloop (sd116 l i1 v1_0) (.exit 2) (sd113 l i1 v4_0 v4_1), .rw 14 (I ((i1 + 1 : Nat) : Int))] (And.intro (inc_rw (i := i1) (by first | assumption | omega)) (And.intro (po_lr (q := lr_isorta_4 l ((i1 : Nat) : Int)) (lp_isorta_4 l ((i1 : Nat) : Int) (i1 + 1) ((i1 : Nat) : Int) v1_0 (isorta_ne (i1 + 1) _ _ (by omega) (by omega) (by omega)) (by first | assumption | omega) (by first | assumption | omega)) h10) (And.intro (gc_of (C := cfg) (f := 100) (a := lp100_4) (ks := [0, 1, 2, 6, 7]) (st := (sd115 l i1 v1_0)) (st1 := (sd116 l i1 v1_0)) (by kernel_rfl) (by (simp only [sd115, sd116, go_sem, Nat.reduceAdd, Nat.reduceEqDiff, Nat.reduceLT, Nat.reduceLeDiff, bI2, zx.idsL, zx.renL, zx.snapAll, z7.idsL, z7.renL, z7.snapAll]) <;> rfl)) (And.intro (ct_at hk1) trivial)))) (by kernel_rfl) (by (simp only [sd117, go_sem, Nat.reduceAdd, Nat.reduceEqDiff, Nat.reduceLT, Nat.reduceLeDiff, bI2, zx.idsL, zx.renL, zx.snapAll, z7.idsL, z7.renL, z7.snapAll]) <;> rfl) (ih (i1 + 1) v4_1 (by omega) hN1 (by first | assumption | omega) (by first | assumption | omega)) (by kernel_rfl)
    | x1 v4_0 v4_1 =>
      try dsimp only
      have hv_h10 := ivt_isorta_4 l ((i1 : Nat) : Int) (i1 + 1) ((i1 : Nat) : Int) v1_0 (isorta_ne (i1 + 1) _ _ (by omega) (by omega) (by omega)) (by first | assumption | omega) (by first | assumption | omega)
      rw [h10] at hv_h10
      obtain ⟨hv_h10_0, hv_h10_1⟩ := hv_h10
      try dsimp only [iv_isorta_4] at hv_h10_0
      try dsimp only [iv_isorta_4] at hv_h10_1
      exact po_turn' (ks := [0, 1, 2, 6]) (st' := (sd118 l i1 v4_0 v4_1)) [.dec true, .gloop (sd116 l i1 v1_0) (.exit 2) (sd114 l i1 v4_0 v4_1), .rw 14 (I ((i1 + 1 : Nat) : Int))] (And.intro (inc_rw (i := i1) (by first | assumption | omega)) (And.intro (po_lr (q := lr_isorta_4 l ((i1 : Nat) : Int)) (lp_isorta_4 l ((i1 : Nat) : Int) (i1 + 1) ((i1 : Nat) : Int) v1_0 (isorta_ne (i1 + 1) _ _ (by omega) (by omega) (by omega)) (by first | assumption | omega) (by first | assumption | omega)) h10) (And.intro (gc_of (C := cfg) (f := 100) (a := lp100_4) (ks := [0, 1, 2, 6, 7]) (st := (sd115 l i1 v1_0)) (st1 := (sd116 l i1 v1_0)) (by kernel_rfl) (by (simp only [sd115, sd116, go_sem, Nat.reduceAdd, Nat.reduceEqDiff, Nat.reduceLT, Nat.reduceLeDiff, bI2, zx.idsL, zx.renL, zx.snapAll, z7.idsL, z7.renL, z7.snapAll]) <;> rfl)) (And.intro (ct_at hk1) trivial)))) (by kernel_rfl) (by (simp only [sd118, go_sem, Nat.reduceAdd, Nat.reduceEqDiff, Nat.reduceLT, Nat.reduceLeDiff, bI2, zx.idsL, zx.renL, zx.snapAll, z7.idsL, z7.renL, z7.snapAll]) <;> rfl) (ih (i1 + 1) v4_1 (by omega) hN1 (by first | assumption | omega) (by first | assumption | omega)) (by kernel_rfl)
    | out =>
      exact absurd h10 (isorta_ne (i1 + 1) _ _ (by omega) (by omega) (by omega))
theorem ivt_isorta_1 (l : List Int) : ∀ (rest1 : Nat) (i1 : Nat) (v1_0 : List Int) (hk1 : (((l.length : Nat) : Int) - ((i1 : Nat) : Int)).toNat = rest1) (hN1 : ((l.length : Nat) : Int) ≤ 9223372036854775807) (hn : l.length ≤ 12) (hl1_v1_0 : v1_0.length = l.length), iv_isorta_1 l (isorta_1 rest1 i1 v1_0) := by
  intro rest1
  induction rest1 with
  | zero =>
    intro i1 v1_0 hk1 hN1 hn hl1_v1_0
    unfold isorta_1
    exact hl1_v1_0
  | succ rest1 ih =>
    intro i1 v1_0 hk1 hN1 hn hl1_v1_0
    have hlt1 := of_decide_eq_true (ct_at hk1)
    unfold isorta_1
    cases h10 : isorta_4 (i1 + 1) ((i1 : Nat) : Int) v1_0 with
    | x0 v4_0 v4_1 =>
      try dsimp only
      have hv_h10 := ivt_isorta_4 l ((i1 : Nat) : Int) (i1 + 1) ((i1 : Nat) : Int) v1_0 (isorta_ne (i1 + 1) _ _ (by omega) (by omega) (by omega)) (by first | assumption | omega) (by first | assumption | omega)
      rw [h10] at hv_h10
      obtain ⟨hv_h10_0, hv_h10_1⟩ := hv_h10
      try dsimp only [iv_isorta_4] at hv_h10_0
      try dsimp only [iv_isorta_4] at hv_h10_1
      exact ih (i1 + 1) v4_1 (by omega) hN1 (by first | assumption | omega) (by first | assumption | omega)
    | x1 v4_0 v4_1 =>
      try dsimp only
      have hv_h10 := ivt_isorta_4 l ((i1 : Nat) : Int) (i1 + 1) ((i1 : Nat) : Int) v1_0 (isorta_ne (i1 + 1) _ _ (by omega) (by omega) (by omega)) (by first | assumption | omega) (by first | assumption | omega)
      rw [h10] at hv_h10
      obtain ⟨hv_h10_0, hv_h10_1⟩ := hv_h10
      try dsimp only [iv_isorta_4] at hv_h10_0
      try dsimp only [iv_isorta_4] at hv_h10_1
      exact ih (i1 + 1) v4_1 (by omega) hN1 (by first | assumption | omega) (by first | assumption | omega)
    | out =>
      exact absurd h10 (isorta_ne (i1 + 1) _ _ (by omega) (by omega) (by omega))

def isorta (l : List Int) : List Int :=
  match isorta_1 (((l.length : Nat) : Int) - 1).toNat 1 l with
  | .x0 i1 v1_0 =>
    v1_0

def sd119 (l : List Int) (i1 : Nat) (v1_0 : List Int) : St := ⟨49, [(12, B false), (11, I ((l.length : Nat) : Int)), (10, I ((i1 : Nat) : Int)), (0, .lsl 3 0 l.length 1 none), (1, I 0), (2, I ((l.length : Nat) : Int)), (6, I ((i1 : Nat) : Int))], [(3, ⟨v1_0.map I, 1, false⟩)], 4, 4⟩

theorem I_isorta (l : List Int) (hl : l.length ≤ 12) : (lim cfg).inl 100 [.lsl 3 0 l.length 1 none, I 0, I ((l.length : Nat) : Int)] [(3, ⟨l.map I, 1, false⟩)] 4 = some (.tup [], [(3, ⟨(isorta l).map I, 1, false⟩)], 4) := by
  unfold isorta
  cases h11 : isorta_1 (((l.length : Nat) : Int) - 1).toNat 1 l with
  | x0 i1 v1_0 =>
    try dsimp only
    have hv_h11 := ivt_isorta_1 l (((l.length : Nat) : Int) - 1).toNat 1 l (by omega) (by first | assumption | omega) (by first | assumption | omega) (by first | assumption | omega)
    rw [h11] at hv_h11
    have hv_h11_0 := hv_h11
    try dsimp only [iv_isorta_1] at hv_h11_0
    exact po_inl [.gloop ⟨49, [(0, .lsl 3 0 l.length 1 none), (1, I 0), (2, I ((l.length : Nat) : Int)), (6, I 1)], [(3, ⟨l.map I, 1, false⟩)], 4, 4⟩ (.exit 0) (sd119 l i1 v1_0)] (And.intro (po_lr (q := lr_isorta_1 l) (lp_isorta_1 l (((l.length : Nat) : Int) - 1).toNat 1 l (by omega) (by first | assumption | omega) (by first | assumption | omega) (by first | assumption | omega)) h11) (And.intro (gc_of (C := cfg) (f := 100) (a := lp100_1) (ks := [0, 1, 2, 6]) (st := ⟨49, [(6, I 1), (9, I 1), (8, I 0), (0, .lsl 3 0 l.length 1 none), (1, I 0), (2, I ((l.length : Nat) : Int))], [(3, ⟨l.map I, 1, false⟩)], 4, 4⟩) (st1 := ⟨49, [(0, .lsl 3 0 l.length 1 none), (1, I 0), (2, I ((l.length : Nat) : Int)), (6, I 1)], [(3, ⟨l.map I, 1, false⟩)], 4, 4⟩) (by kernel_rfl) (by (simp only [go_sem, Nat.reduceAdd, Nat.reduceEqDiff, Nat.reduceLT, Nat.reduceLeDiff, bI2, zx.idsL, zx.renL, zx.snapAll, z7.idsL, z7.renL, z7.snapAll]) <;> rfl)) trivial)) (by kernel_rfl)

def pdqa (l : List Int) (q : Int) : List Int :=
  (isorta l)

def sd120 (l : List Int) (q : Int) : St := ⟨134, [(27, .tup []), (26, I ((l.length : Nat) : Int)), (25, I 0), (24, .lsl 3 0 l.length 1 none), (23, B true), (22, I (w64 (((l.length : Nat) : Int) - 0))), (10, I (w64 (((l.length : Nat) : Int) - 0))), (21, I (w64 (((l.length : Nat) : Int) - 0))), (20, I 0), (19, I ((l.length : Nat) : Int)), (0, .lsl 3 0 l.length 1 none), (1, I 0), (2, I ((l.length : Nat) : Int)), (3, I q), (8, B true), (9, B true)], [(3, ⟨(isorta l).map I, 1, false⟩)], 4, 4⟩

theorem I_pdqa (l : List Int) (q : Int) (hl : l.length ≤ 12) : (lim cfg).inl 80 [.lsl 3 0 l.length 1 none, I 0, I ((l.length : Nat) : Int), I q] [(3, ⟨l.map I, 1, false⟩)] 4 = some (.tup [], [(3, ⟨(pdqa l q).map I, 1, false⟩)], 4) := by
  unfold pdqa
  have l1 := (show decide ((w64 (((l.length : Nat) : Int) - 0)) ≤ 12) = true from (decide_eq_true (by first | assumption | omega | (simp only [zc] at * <;> omega))))
  have l2 := (And.intro (show zV [(3, ⟨l.map I, 1, false⟩)] 256 [3] [] = some [3] from (by (simp only [zV, go_sem, Nat.reduceAdd, Nat.reduceEqDiff, Nat.reduceLT, Nat.reduceLeDiff, bI2, zx.idsL, zx.renL, zx.snapAll, z7.idsL, z7.renL, z7.snapAll]) <;> rfl)) (I_isorta l (by first | assumption | omega)))
  exact po_inl [.gloop ⟨134, [(0, .lsl 3 0 l.length 1 none), (1, I 0), (2, I ((l.length : Nat) : Int)), (3, I q), (8, B true), (9, B true)], [(3, ⟨l.map I, 1, false⟩)], 4, 4⟩ .ret (sd120 l q)] (And.intro (show (lim cfg).loop 80 lp80_2 ⟨134, [(0, .lsl 3 0 l.length 1 none), (1, I 0), (2, I ((l.length : Nat) : Int)), (3, I q), (8, B true), (9, B true)], [(3, ⟨l.map I, 1, false⟩)], 4, 4⟩ = some (.ret, (sd120 l q)) from (zQ [.dec true, .inlS [3] (.tup []) [(3, ⟨(isorta l).map I, 1, false⟩)] 4] (And.intro (l2) (And.intro (l1) trivial)) (by kernel_rfl))) (And.intro (gc_of (C := cfg) (f := 80) (a := lp80_2) (ks := [0, 1, 2, 3, 8, 9]) (st := ⟨134, [(9, B true), (8, B true), (0, .lsl 3 0 l.length 1 none), (1, I 0), (2, I ((l.length : Nat) : Int)), (3, I q)], [(3, ⟨l.map I, 1, false⟩)], 4, 4⟩) (st1 := ⟨134, [(0, .lsl 3 0 l.length 1 none), (1, I 0), (2, I ((l.length : Nat) : Int)), (3, I q), (8, B true), (9, B true)], [(3, ⟨l.map I, 1, false⟩)], 4, 4⟩) (by kernel_rfl) (by (simp only [go_sem, Nat.reduceAdd, Nat.reduceEqDiff, Nat.reduceLT, Nat.reduceLeDiff, bI2, zx.idsL, zx.renL, zx.snapAll, z7.idsL, z7.renL, z7.snapAll]) <;> rfl)) trivial)) (by kernel_rfl)

def zl (l : List Int) : List Int :=
  (pdqa l (bl12 ((l.length : Nat) : Int)))

theorem I_sorta (l : List Int) (hl : l.length ≤ 12) : (lim cfg).inl 38 [.lsl 3 0 l.length 1 none] [(3, ⟨l.map I, 1, false⟩)] 4 = some (.tup [], [(3, ⟨(zl l).map I, 1, false⟩)], 4) := by
  unfold zl
  exact po_inl [.pure (I (bl12 ((l.length : Nat) : Int))), .inlS [3] (.tup []) [(3, ⟨(pdqa l (bl12 ((l.length : Nat) : Int))).map I, 1, false⟩)] 4] (And.intro (And.intro (show zV [(3, ⟨l.map I, 1, false⟩)] 256 [3] [] = some [3] from (by (simp only [zV, go_sem, Nat.reduceAdd, Nat.reduceEqDiff, Nat.reduceLT, Nat.reduceLeDiff, bI2, zx.idsL, zx.renL, zx.snapAll, z7.idsL, z7.renL, z7.snapAll]) <;> rfl)) (I_pdqa l (bl12 ((l.length : Nat) : Int)) (by first | assumption | omega))) (And.intro (T_bl (n := ((l.length : Nat) : Int)) (by first | assumption | omega) (by first | assumption | omega)) trivial)) (by kernel_rfl)

def sd121 (l : List Int) (q4_0 : Int) (v4_0 : Int) (v4_1 : List Int) : St := ⟨49, [(7, I (w64 (v4_0 - 1))), (32, I (w64 (v4_0 - 1))), (31, I v4_0), (48, .lref 4 ((w64 (v4_0 - 1)).toNat) 1 0), (47, .lref 4 ((v4_0).toNat) 1 0), (46, I (v4_1.getD ((v4_0).toNat) default)), (45, .lref 4 ((v4_0).toNat) 1 0), (44, I v4_0), (43, .lsl 4 0 l.length 1 none), (42, I (v4_1.getD ((w64 (v4_0 - 1)).toNat) default)), (41, .lref 4 ((w64 (v4_0 - 1)).toNat) 1 0), (40, I (w64 (v4_0 - 1))), (39, I v4_0), (38, .lsl 4 0 l.length 1 none), (37, I (w64 (v4_0 - 1))), (36, I v4_0), (35, .lsl 4 0 l.length 1 none), (34, I v4_0), (33, .lsl 4 0 l.length 1 none), (30, B true), (29, B true), (28, I (v4_1.getD ((w64 (v4_0 - 1)).toNat) default)), (27, .lref 4 ((w64 (v4_0 - 1)).toNat) 1 0), (26, I (w64 (v4_0 - 1))), (25, I v4_0), (24, .lsl 4 0 l.length 1 none), (23, I (v4_1.getD ((v4_0).toNat) default)), (22, .lref 4 ((v4_0).toNat) 1 0), (21, I v4_0), (20, .lsl 4 0 l.length 1 none), (19, B true), (18, B true), (17, I 0), (16, I v4_0), (0, .lsl 4 0 l.length 1 none), (1, I 0), (2, I ((l.length : Nat) : Int)), (6, I q4_0), (7, I v4_0)], [(4, ⟨((v4_1.set ((v4_0).toNat) (v4_1.getD ((w64 (v4_0 - 1)).toNat) default)).set ((w64 (v4_0 - 1)).toNat) (v4_1.getD ((v4_0).toNat) default)).map I, 1, false⟩)], 5, 5⟩

inductive LR_isortb_4 where
  | x0 (v4_0 : Int) (v4_1 : List Int)
  | x1 (v4_0 : Int) (v4_1 : List Int)
  | out
instance : Inhabited LR_isortb_4 := ⟨.out⟩
def isortb_4 : Nat → Int → (List Int) → LR_isortb_4
  | 0, _, _ => .out
  | rest4 + 1, v4_0, v4_1 =>
    bif decide (v4_0 > 0) then
      bif (cmp_Less (v4_1.getD ((v4_0).toNat) default) (v4_1.getD ((w64 (v4_0 - 1)).toNat) default)) then
        isortb_4 rest4 (w64 (v4_0 - 1)) ((v4_1.set ((v4_0).toNat) (v4_1.getD ((w64 (v4_0 - 1)).toNat) default)).set ((w64 (v4_0 - 1)).toNat) (v4_1.getD ((v4_0).toNat) default))
      else
        .x0 v4_0 v4_1
    else
      .x1 v4_0 v4_1
def lr_isortb_4 (l : List Int) (q4_0 : Int) : LR_isortb_4 → Exit × St
  | .x0 v4_0 v4_1 => ((.exit 2), ⟨49, [(30, B false), (29, B false), (28, I (v4_1.getD ((w64 (v4_0 - 1)).toNat) default)), (27, .lref 4 ((w64 (v4_0 - 1)).toNat) 1 0), (26, I (w64 (v4_0 - 1))), (25, I v4_0), (24, .lsl 4 0 l.length 1 none), (23, I (v4_1.getD ((v4_0).toNat) default)), (22, .lref 4 ((v4_0).toNat) 1 0), (21, I v4_0), (20, .lsl 4 0 l.length 1 none), (19, B true), (18, B true), (17, I 0), (16, I v4_0), (0, .lsl 4 0 l.length 1 none), (1, I 0), (2, I ((l.length : Nat) : Int)), (6, I q4_0), (7, I v4_0)], [(4, ⟨v4_1.map I, 1, false⟩)], 5, 5⟩)
  | .x1 v4_0 v4_1 => ((.exit 2), ⟨49, [(30, B false), (29, .tup []), (28, .tup []), (27, .tup []), (26, .tup []), (25, .tup []), (24, .tup []), (23, .tup []), (22, .tup []), (21, .tup []), (20, .tup []), (19, B false), (18, B false), (17, I 0), (16, I v4_0), (0, .lsl 4 0 l.length 1 none), (1, I 0), (2, I ((l.length : Nat) : Int)), (6, I q4_0), (7, I v4_0)], [(4, ⟨v4_1.map I, 1, false⟩)], 5, 5⟩)
  | .out => (.normal, ⟨0, [], [], 0, 0⟩)
def iv_isortb_4 (l : List Int) (q4_0 : Int) : LR_isortb_4 → Prop
  | .x0 v4_0 v4_1 => (0 ≤ v4_0 ∧ v4_0 < ((l.length : Nat) : Int) ∧ l.length ≤ 12) ∧ (v4_1.length = l.length)
  | .x1 v4_0 v4_1 => (0 ≤ v4_0 ∧ v4_0 < ((l.length : Nat) : Int) ∧ l.length ≤ 12) ∧ (v4_1.length = l.length)
  | .out => True
def isortb_4_f_o1 (v4_0 : Int) (v4_1 : List Int) : List Ora := [.dec true, .op (some 22) ⟨.lref 4 ((v4_0).toNat) 1 0, [], [], 5⟩, .op (some 23) ⟨I (v4_1.getD ((v4_0).toNat) default), [], [4], 5⟩, .op (some 27) ⟨.lref 4 ((w64 (v4_0 - 1)).toNat) 1 0, [], [], 5⟩, .op (some 28) ⟨I (v4_1.getD ((w64 (v4_0 - 1)).toNat) default), [], [4], 5⟩, .pure (B (cmp_Less (v4_1.getD ((v4_0).toNat) default) (v4_1.getD ((w64 (v4_0 - 1)).toNat) default)))]
theorem lp_isortb_4 (l : List Int) (q4_0 : Int) : ∀ (rest4 : Nat) (v4_0 : Int) (v4_1 : List Int) (hf4 : isortb_4 rest4 v4_0 v4_1 ≠ .out) (hj : 0 ≤ v4_0 ∧ v4_0 < ((l.length : Nat) : Int) ∧ l.length ≤ 12) (hl4_v4_1 : v4_1.length = l.length), (lim cfg).loop 100 lp100_4 ⟨49, [(0, .lsl 4 0 l.length 1 none), (1, I 0), (2, I ((l.length : Nat) : Int)), (6, I q4_0), (7, I v4_0)], [(4, ⟨v4_1.map I, 1, false⟩)], 5, 5⟩ = some (lr_isortb_4 l q4_0 (isortb_4 rest4 v4_0 v4_1)) := by
  intro rest4
  induction rest4 with
  | zero =>
    intro v4_0 v4_1 hf4 hj hl4_v4_1
    exact absurd rfl hf4
  | succ rest4 ih =>
    intro v4_0 v4_1 hf4 hj hl4_v4_1
    unfold isortb_4 at hf4 ⊢
    revert hf4
    cases h8 : decide (v4_0 > 0) with
    | true =>
      have g8 := of_decide_eq_true h8
      have p1 := (idx_row (C := cfg) (nxt := 5) (t := 37) (ty := ty37) (te := ty3) (e := 3) (o := 4) (len := l.length) (sz := 1) (cap := none) (i := v4_0) (by kernel_rfl) rfl (by kernel_rfl) rfl (by first | assumption | omega) (by first | assumption | omega))
      have p2 := (load_row (C := cfg) (objs := [(4, ⟨v4_1.map I, 1, false⟩)]) (nxt := 5) (t := 3) (ty := ty3) (o := 4) (n := (v4_0).toNat) (sz := 1) (sub := 0) (ob := ⟨v4_1.map I, 1, false⟩) (e := I (v4_1.getD ((v4_0).toNat) default)) (d := I (v4_1.getD ((v4_0).toNat) default)) (by kernel_rfl) (by kernel_rfl) rfl (row_get (f := I) (by first | assumption | omega)) (by kernel_rfl))
      have p3 := (idx_row (C := cfg) (nxt := 5) (t := 37) (ty := ty37) (te := ty3) (e := 3) (o := 4) (len := l.length) (sz := 1) (cap := none) (i := w64 (v4_0 - 1)) (by kernel_rfl) rfl (by kernel_rfl) rfl (by first | assumption | omega | (simp only [zc] at * <;> omega)) (by first | assumption | omega | (simp only [zc] at * <;> omega)))
      have p4 := (load_row (C := cfg) (objs := [(4, ⟨v4_1.map I, 1, false⟩)]) (nxt := 5) (t := 3) (ty := ty3) (o := 4) (n := (w64 (v4_0 - 1)).toNat) (sz := 1) (sub := 0) (ob := ⟨v4_1.map I, 1, false⟩) (e := I (v4_1.getD ((w64 (v4_0 - 1)).toNat) default)) (d := I (v4_1.getD ((w64 (v4_0 - 1)).toNat) default)) (by kernel_rfl) (by kernel_rfl) rfl (row_get (f := I) (by first | assumption | omega | (simp only [zc] at * <;> omega))) (by kernel_rfl))
      have p5 := (T_cmp_Less (v4_1.getD ((v4_0).toNat) default) (v4_1.getD ((w64 (v4_0 - 1)).toNat) default))
      cases h9 : (cmp_Less (v4_1.getD ((v4_0).toNat) default) (v4_1.getD ((w64 (v4_0 - 1)).toNat) default)) with
      | true =>
        intro hf4
        exact po_turn' (ks := [0, 1, 2, 6, 7]) (st' := (sd121 l q4_0 v4_0 v4_1)) ((isortb_4_f_o1 v4_0 v4_1) ++ [.dec true, .op (some 41) ⟨.lref 4 ((w64 (v4_0 - 1)).toNat) 1 0, [], [], 5⟩, .op (some 42) ⟨I (v4_1.getD ((w64 (v4_0 - 1)).toNat) default), [], [4], 5⟩, .op (some 45) ⟨.lref 4 ((v4_0).toNat) 1 0, [], [], 5⟩, .op (some 46) ⟨I (v4_1.getD ((v4_0).toNat) default), [], [4], 5⟩, .op (some 47) ⟨.lref 4 ((v4_0).toNat) 1 0, [], [], 5⟩, .stS 4 ⟨.tup [], [(4, some ⟨(v4_1.set ((v4_0).toNat) (v4_1.getD ((w64 (v4_0 - 1)).toNat) default)).map I, 1, false⟩)], [4], 5⟩, .op (some 48) ⟨.lref 4 ((w64 (v4_0 - 1)).toNat) 1 0, [], [], 5⟩, .stS 4 ⟨.tup [], [(4, some ⟨((v4_1.set ((v4_0).toNat) (v4_1.getD ((w64 (v4_0 - 1)).toNat) default)).set ((w64 (v4_0 - 1)).toNat) (v4_1.getD ((v4_0).toNat) default)).map I, 1, false⟩)], [4], 5⟩]) (And.intro (store_row (C := cfg) (objs := [(4, ⟨(v4_1.set ((v4_0).toNat) (v4_1.getD ((w64 (v4_0 - 1)).toNat) default)).map I, 1, false⟩)]) (nxt := 5) (t := 3) (ty := ty3) (o := 4) (n := (w64 (v4_0 - 1)).toNat) (sz := 1) (sub := 0) (els := (v4_1.set ((v4_0).toNat) (v4_1.getD ((w64 (v4_0 - 1)).toNat) default)).map I) (els' := ((v4_1.set ((v4_0).toNat) (v4_1.getD ((w64 (v4_0 - 1)).toNat) default)).set ((w64 (v4_0 - 1)).toNat) (v4_1.getD ((v4_0).toNat) default)).map I) (e := I ((v4_1.set ((v4_0).toNat) (v4_1.getD ((w64 (v4_0 - 1)).toNat) default)).getD ((w64 (v4_0 - 1)).toNat) default)) (e' := I (v4_1.getD ((v4_0).toNat) default)) (v := I (v4_1.getD ((v4_0).toNat) default)) (by kernel_rfl) (by kernel_rfl) (row_get (f := I) (by first | assumption | omega | (with_reducible exact zr) | (with_reducible exact Nat.le_trans zA (by omega)) | (simp only [zc] at * <;> omega) | (simp only [zd, za, zb, z9, zg, GS.some_l, List.length_set, List.length_append, List.length_cons, List.length_nil] at * <;> first | with_reducible assumption | omega) | (simp only [zd, za, zb, z9, zg, GS.some_l, List.length_set, List.length_append, List.length_cons, List.length_nil, zc] at * <;> first | with_reducible assumption | omega) | (simp at * <;> omega))) rfl (by kernel_rfl) rfl (by kernel_rfl) (row_set (f := I))) (And.intro (idx_row (C := cfg) (nxt := 5) (t := 37) (ty := ty37) (te := ty3) (e := 3) (o := 4) (len := l.length) (sz := 1) (cap := none) (i := w64 (v4_0 - 1)) (by kernel_rfl) rfl (by kernel_rfl) rfl (by first | assumption | omega | (simp only [zc] at * <;> omega)) (by first | assumption | omega | (simp only [zc] at * <;> omega))) (And.intro (store_row (C := cfg) (objs := [(4, ⟨v4_1.map I, 1, false⟩)]) (nxt := 5) (t := 3) (ty := ty3) (o := 4) (n := (v4_0).toNat) (sz := 1) (sub := 0) (els := v4_1.map I) (els' := (v4_1.set ((v4_0).toNat) (v4_1.getD ((w64 (v4_0 - 1)).toNat) default)).map I) (e := I (v4_1.getD ((v4_0).toNat) default)) (e' := I (v4_1.getD ((w64 (v4_0 - 1)).toNat) default)) (v := I (v4_1.getD ((w64 (v4_0 - 1)).toNat) default)) (by kernel_rfl) (by kernel_rfl) (row_get (f := I) (by first | assumption | omega)) rfl (by kernel_rfl) rfl (by kernel_rfl) (row_set (f := I))) (And.intro (idx_row (C := cfg) (nxt := 5) (t := 37) (ty := ty37) (te := ty3) (e := 3) (o := 4) (len := l.length) (sz := 1) (cap := none) (i := v4_0) (by kernel_rfl) rfl (by kernel_rfl) rfl (by first | assumption | omega) (by first | assumption | omega)) (And.intro (load_row (C := cfg) (objs := [(4, ⟨v4_1.map I, 1, false⟩)]) (nxt := 5) (t := 3) (ty := ty3) (o := 4) (n := (v4_0).toNat) (sz := 1) (sub := 0) (ob := ⟨v4_1.map I, 1, false⟩) (e := I (v4_1.getD ((v4_0).toNat) default)) (d := I (v4_1.getD ((v4_0).toNat) default)) (by kernel_rfl) (by kernel_rfl) rfl (row_get (f := I) (by first | assumption | omega)) (by kernel_rfl)) (And.intro (idx_row (C := cfg) (nxt := 5) (t := 37) (ty := ty37) (te := ty3) (e := 3) (o := 4) (len := l.length) (sz := 1) (cap := none) (i := v4_0) (by kernel_rfl) rfl (by kernel_rfl) rfl (by first | assumption | omega) (by first | assumption | omega)) (And.intro (load_row (C := cfg) (objs := [(4, ⟨v4_1.map I, 1, false⟩)]) (nxt := 5) (t := 3) (ty := ty3) (o := 4) (n := (w64 (v4_0 - 1)).toNat) (sz := 1) (sub := 0) (ob := ⟨v4_1.map I, 1, false⟩) (e := I (v4_1.getD ((w64 (v4_0 - 1)).toNat) default)) (d := I (v4_1.getD ((w64 (v4_0 - 1)).toNat) default)) (by kernel_rfl) (by kernel_rfl) rfl (row_get (f := I) (by first | assumption | omega | (simp only [zc] at * <;> omega))) (by kernel_rfl)) (And.intro (idx_row (C := cfg) (nxt := 5) (t := 37) (ty := ty37) (te := ty3) (e := 3) (o := 4) (len := l.length) (sz := 1) (cap := none) (i := w64 (v4_0 - 1)) (by kernel_rfl) rfl (by kernel_rfl) rfl (by first | assumption | omega | (simp only [zc] at * <;> omega)) (by first | assumption | omega | (simp only [zc] at * <;> omega))) (And.intro h9 (And.intro p5 (And.intro p4 (And.intro p3 (And.intro p2 (And.intro p1 (And.intro h8 trivial))))))))))))))) (by kernel_rfl) (by (simp only [sd121, go_sem, Nat.reduceAdd, Nat.reduceEqDiff, Nat.reduceLT, Nat.reduceLeDiff, bI2, zx.idsL, zx.renL, zx.snapAll, z7.idsL, z7.renL, z7.snapAll]) <;> rfl) (ih (w64 (v4_0 - 1)) ((v4_1.set ((v4_0).toNat) (v4_1.getD ((w64 (v4_0 - 1)).toNat) default)).set ((w64 (v4_0 - 1)).toNat) (v4_1.getD ((v4_0).toNat) default)) hf4 (by first | assumption | omega | (simp only [zc] at * <;> omega)) (by first | assumption | omega | (with_reducible exact zr) | (with_reducible exact Nat.le_trans zA (by omega)) | (simp only [zc] at * <;> omega) | (simp only [zd, za, zb, z9, zg, GS.some_l, List.length_set, List.length_append, List.length_cons, List.length_nil] at * <;> first | with_reducible assumption | omega) | (simp only [zd, za, zb, z9, zg, GS.some_l, List.length_set, List.length_append, List.length_cons, List.length_nil, zc] at * <;> first | with_reducible assumption | omega) | (simp at * <;> omega))) (by kernel_rfl)
      | false =>
        intro hf4
        exact zQ ((isortb_4_f_o1 v4_0 v4_1) ++ [.dec false]) (And.intro h9 (And.intro p5 (And.intro p4 (And.intro p3 (And.intro p2 (And.intro p1 (And.intro h8 trivial))))))) (by kernel_rfl)
    | false =>
      have g8 := of_decide_eq_false h8
      intro hf4
      exact zQ [.dec false] (And.intro h8 trivial) (by kernel_rfl)
theorem ivt_isortb_4 (l : List Int) (q4_0 : Int) : ∀ (rest4 : Nat) (v4_0 : Int) (v4_1 : List Int) (hf4 : isortb_4 rest4 v4_0 v4_1 ≠ .out) (hj : 0 ≤ v4_0 ∧ v4_0 < ((l.length : Nat) : Int) ∧ l.length ≤ 12) (hl4_v4_1 : v4_1.length = l.length), iv_isortb_4 l q4_0 (isortb_4 rest4 v4_0 v4_1) := by
  intro rest4
  induction rest4 with
  | zero =>
    intro v4_0 v4_1 hf4 hj hl4_v4_1
    exact absurd rfl hf4
  | succ rest4 ih =>
    intro v4_0 v4_1 hf4 hj hl4_v4_1
    unfold isortb_4 at hf4 ⊢
    revert hf4
    cases h8 : decide (v4_0 > 0) with
    | true =>
      have g8 := of_decide_eq_true h8
      cases h9 : (cmp_Less (v4_1.getD ((v4_0).toNat) default) (v4_1.getD ((w64 (v4_0 - 1)).toNat) default)) with
      | true =>
        intro hf4
        exact ih (w64 (v4_0 - 1)) ((v4_1.set ((v4_0).toNat) (v4_1.getD ((w64 (v4_0 - 1)).toNat) default)).set ((w64 (v4_0 - 1)).toNat) (v4_1.getD ((v4_0).toNat) default)) hf4 (by first | assumption | omega | (simp only [zc] at * <;> omega)) (by first | assumption | omega | (with_reducible exact zr) | (with_reducible exact Nat.le_trans zA (by omega)) | (simp only [zc] at * <;> omega) | (simp only [zd, za, zb, z9, zg, GS.some_l, List.length_set, List.length_append, List.length_cons, List.length_nil] at * <;> first | with_reducible assumption | omega) | (simp only [zd, za, zb, z9, zg, GS.some_l, List.length_set, List.length_append, List.length_cons, List.length_nil, zc] at * <;> first | with_reducible assumption | omega) | (simp at * <;> omega))
      | false =>
        intro hf4
        exact ⟨hj, hl4_v4_1⟩
    | false =>
      have g8 := of_decide_eq_false h8
      intro hf4
      exact ⟨hj, hl4_v4_1⟩

theorem isortb_ne : ∀ (n : Nat) (j : Int) (v : List Int), 0 ≤ j → j < n → j ≤ 12 → isortb_4 n j v ≠ .out
  | 0, j, v, h0, h1, _ => by omega
  | n + 1, j, v, h0, h1, h5 => by
    unfold isortb_4
    cases h2 : decide (j > 0) with
    | false => simp
    | true =>
      have := of_decide_eq_true h2
      cases h3 : cmp_Less (v.getD j.toNat default) (v.getD (w64 (j - 1)).toNat default) with
      | false => simp
      | true =>
        simp only [cond_true]
        exact isortb_ne n _ _ (by rw [w64_eq (by omega) (by omega)]; omega) (by rw [w64_eq (by omega) (by omega)]; omega) (by rw [w64_eq (by omega) (by omega)]; omega)

def sd128 (l : List Int) (i1 : Nat) (v4_0 : Int) (v4_1 : List Int) : St := ⟨49, [(6, I ((i1 + 1 : Nat) : Int)), (14, I ((i1 + 1 : Nat) : Int)), (13, I ((i1 : Nat) : Int)), (30, B false), (29, B false), (28, I (v4_1.getD ((w64 (v4_0 - 1)).toNat) default)), (27, .lref 4 ((w64 (v4_0 - 1)).toNat) 1 0), (26, I (w64 (v4_0 - 1))), (25, I v4_0), (24, .lsl 4 0 l.length 1 none), (23, I (v4_1.getD ((v4_0).toNat) default)), (22, .lref 4 ((v4_0).toNat) 1 0), (21, I v4_0), (20, .lsl 4 0 l.length 1 none), (19, B true), (18, B true), (17, I 0), (16, I v4_0), (0, .lsl 4 0 l.length 1 none), (1, I 0), (2, I ((l.length : Nat) : Int)), (6, I ((i1 : Nat) : Int)), (7, I v4_0)], [(4, ⟨v4_1.map I, 1, false⟩)], 5, 5⟩

def sd127 (l : List Int) (i1 : Nat) (v1_0 : List Int) : St := ⟨49, [(0, .lsl 4 0 l.length 1 none), (1, I 0), (2, I ((l.length : Nat) : Int)), (6, I ((i1 : Nat) : Int)), (7, I ((i1 : Nat) : Int))], [(4, ⟨v1_0.map I, 1, false⟩)], 5, 5⟩

def sd124 (l : List Int) (i1 : Nat) (v4_0 : Int) (v4_1 : List Int) : St := ⟨49, [(30, B false), (29, B false), (28, I (v4_1.getD ((w64 (v4_0 - 1)).toNat) default)), (27, .lref 4 ((w64 (v4_0 - 1)).toNat) 1 0), (26, I (w64 (v4_0 - 1))), (25, I v4_0), (24, .lsl 4 0 l.length 1 none), (23, I (v4_1.getD ((v4_0).toNat) default)), (22, .lref 4 ((v4_0).toNat) 1 0), (21, I v4_0), (20, .lsl 4 0 l.length 1 none), (19, B true), (18, B true), (17, I 0), (16, I v4_0), (0, .lsl 4 0 l.length 1 none), (1, I 0), (2, I ((l.length : Nat) : Int)), (6, I ((i1 : Nat) : Int)), (7, I v4_0)], [(4, ⟨v4_1.map I, 1, false⟩)], 5, 5⟩

def sd126 (l : List Int) (i1 : Nat) (v1_0 : List Int) : St := ⟨49, [(7, I ((i1 : Nat) : Int)), (15, I ((i1 : Nat) : Int)), (12, B true), (11, I ((l.length : Nat) : Int)), (10, I ((i1 : Nat) : Int)), (0, .lsl 4 0 l.length 1 none), (1, I 0), (2, I ((l.length : Nat) : Int)), (6, I ((i1 : Nat) : Int))], [(4, ⟨v1_0.map I, 1, false⟩)], 5, 5⟩

def sd129 (l : List Int) (i1 : Nat) (v4_0 : Int) (v4_1 : List Int) : St := ⟨49, [(6, I ((i1 + 1 : Nat) : Int)), (14, I ((i1 + 1 : Nat) : Int)), (13, I ((i1 : Nat) : Int)), (30, B false), (29, .tup []), (28, .tup []), (27, .tup []), (26, .tup []), (25, .tup []), (24, .tup []), (23, .tup []), (22, .tup []), (21, .tup []), (20, .tup []), (19, B false), (18, B false), (17, I 0), (16, I v4_0), (0, .lsl 4 0 l.length 1 none), (1, I 0), (2, I ((l.length : Nat) : Int)), (6, I ((i1 : Nat) : Int)), (7, I v4_0)], [(4, ⟨v4_1.map I, 1, false⟩)], 5, 5⟩

def sd125 (l : List Int) (i1 : Nat) (v4_0 : Int) (v4_1 : List Int) : St := ⟨49, [(30, B false), (29, .tup []), (28, .tup []), (27, .tup []), (26, .tup []), (25, .tup []), (24, .tup []), (23, .tup []), (22, .tup []), (21, .tup []), (20, .tup []), (19, B false), (18, B false), (17, I 0), (16, I v4_0), (0, .lsl 4 0 l.length 1 none), (1, I 0), (2, I ((l.length : Nat) : Int)), (6, I ((i1 : Nat) : Int)), (7, I v4_0)], [(4, ⟨v4_1.map I, 1, false⟩)], 5, 5⟩

inductive LR_isortb_1 where
  | x0 (i1 : Nat) (v1_0 : List Int)
instance : Inhabited LR_isortb_1 := ⟨.x0 default default⟩
def isortb_1 : Nat → Nat → (List Int) → LR_isortb_1
  | 0, i1, v1_0 => .x0 i1 v1_0
  | rest1 + 1, i1, v1_0 =>
    match isortb_4 (i1 + 1) ((i1 : Nat) : Int) v1_0 with
    | .x0 v4_0 v4_1 =>
      isortb_1 rest1 (i1 + 1) v4_1
    | .x1 v4_0 v4_1 =>
      isortb_1 rest1 (i1 + 1) v4_1
    | .out =>
      default
def lr_isortb_1 (l : List Int) : LR_isortb_1 → Exit × St
  | .x0 i1 v1_0 => ((.exit 0), ⟨49, [(12, B false), (11, I ((l.length : Nat) : Int)), (10, I ((i1 : Nat) : Int)), (0, .lsl 4 0 l.length 1 none), (1, I 0), (2, I ((l.length : Nat) : Int)), (6, I ((i1 : Nat) : Int))], [(4, ⟨v1_0.map I, 1, false⟩)], 5, 5⟩)
def iv_isortb_1 (l : List Int) : LR_isortb_1 → Prop
  | .x0 i1 v1_0 => (v1_0.length = l.length)
theorem lp_isortb_1 (l : List Int) : ∀ (rest1 : Nat) (i1 : Nat) (v1_0 : List Int) (hk1 : (((l.length : Nat) : Int) - ((i1 : Nat) : Int)).toNat = rest1) (hN1 : ((l.length : Nat) : Int) ≤ 9223372036854775807) (hn : l.length ≤ 12) (hl1_v1_0 : v1_0.length = l.length), (lim cfg).loop 100 lp100_1 ⟨49, [(0, .lsl 4 0 l.length 1 none), (1, I 0), (2, I ((l.length : Nat) : Int)), (6, I ((i1 : Nat) : Int))], [(4, ⟨v1_0.map I, 1, false⟩)], 5, 5⟩ = some (lr_isortb_1 l (isortb_1 rest1 i1 v1_0)) := by
  intro rest1
  induction rest1 with
  | zero =>
    intro i1 v1_0 hk1 hN1 hn hl1_v1_0
    unfold isortb_1
    exact zQ [.dec false] (And.intro (ct_no hk1) trivial) (by kernel_rfl)
  | succ rest1 ih =>
    intro i1 v1_0 hk1 hN1 hn hl1_v1_0
    have hlt1 := of_decide_eq_true (ct_at hk1)
    unfold isortb_1
    cases h10 : isortb_4 (i1 + 1) ((i1 : Nat) : Int) v1_0 with
    | x0 v4_0 v4_1 =>
      try dsimp only
      have hv_h10 := ivt_isortb_4 l ((i1 : Nat) : Int) (i1 + 1) ((i1 : Nat) : Int) v1_0 (isortb_ne (i1 + 1) _ _ (by omega) (by omega) (by omega)) (by first | assumption | omega) (by first | assumption | omega)
      rw [h10] at hv_h10
      obtain ⟨hv_h10_0, hv_h10_1⟩ := hv_h10
      try dsimp only [iv_isortb_4] at hv_h10_0
      try dsimp only [iv_isortb_4] at hv_h10_1
      exact po_turn' (ks := [0, 1, 2, 6]) (st' := (sd128 l i1 v4_0 v4_1)) [.dec true, .gloop (sd127 l i1 v1_0) (.exit 2) (sd124 l i1 v4_0 v4_1), .rw 14 (I ((i1 + 1 : Nat) : Int))] (And.intro (inc_rw (i := i1) (by first | assumption | omega)) (And.intro (po_lr (q := lr_isortb_4 l ((i1 : Nat) : Int)) (lp_isortb_4 l ((i1 : Nat) : Int) (i1 + 1) ((i1 : Nat) : Int) v1_0 (isortb_ne (i1 + 1) _ _ (by omega) (by omega) (by omega)) (by first | assumption | omega) (by first | assumption | omega)) h10) (And.intro (gc_of (C := cfg) (f := 100) (a := lp100_4) (ks := [0, 1, 2, 6, 7]) (st := (sd126 l i1 v1_0)) (st1 := (sd127 l i1 v1_0)) (by kernel_rfl) (by (simp only [sd126, sd127, go_sem, Nat.reduceAdd, Nat.reduceEqDiff, Nat.reduceLT, Nat.reduceLeDiff, bI2, zx.idsL, zx.renL, zx.snapAll, z7.idsL, z7.renL, z7.snapAll]) <;> rfl)) (And.intro (ct_at hk1) trivial)))) (by kernel_rfl) (by (simp only [sd128, go_sem, Nat.reduceAdd, Nat.reduceEqDiff, Nat.reduceLT, Nat.reduceLeDiff, bI2, zx.idsL, zx.renL, zx.snapAll, z7.idsL, z7.renL, z7.snapAll]) <;> rfl) (ih (i1 + 1) v4_1 (by omega) hN1 (by first | assumption | omega) (by first | assumption | omega)) (by kernel_rfl)
    | x1 v4_0 v4_1 =>
      try dsimp only
      have hv_h10 := ivt_isortb_4 l ((i1 : Nat) : Int) (i1 + 1) ((i1 : Nat) : Int) v1_0 (isortb_ne (i1 + 1) _ _ (by omega) (by omega) (by omega)) (by first | assumption | omega) (by first | assumption | omega)
      rw [h10] at hv_h10
      obtain ⟨hv_h10_0, hv_h10_1⟩ := hv_h10
      try dsimp only [iv_isortb_4] at hv_h10_0
      try dsimp only [iv_isortb_4] at hv_h10_1
      exact po_turn' (ks := [0, 1, 2, 6]) (st' := (sd129 l i1 v4_0 v4_1)) [.dec true, .gloop (sd127 l i1 v1_0) (.exit 2) (sd125 l i1 v4_0 v4_1), .rw 14 (I ((i1 + 1 : Nat) : Int))] (And.intro (inc_rw (i := i1) (by first | assumption | omega)) (And.intro (po_lr (q := lr_isortb_4 l ((i1 : Nat) : Int)) (lp_isortb_4 l ((i1 : Nat) : Int) (i1 + 1) ((i1 : Nat) : Int) v1_0 (isortb_ne (i1 + 1) _ _ (by omega) (by omega) (by omega)) (by first | assumption | omega) (by first | assumption | omega)) h10) (And.intro (gc_of (C := cfg) (f := 100) (a := lp100_4) (ks := [0, 1, 2, 6, 7]) (st := (sd126 l i1 v1_0)) (st1 := (sd127 l i1 v1_0)) (by kernel_rfl) (by (simp only [sd126, sd127, go_sem, Nat.reduceAdd, Nat.reduceEqDiff, Nat.reduceLT, Nat.reduceLeDiff, bI2, zx.idsL, zx.renL, zx.snapAll, z7.idsL, z7.renL, z7.snapAll]) <;> rfl)) (And.intro (ct_at hk1) trivial)))) (by kernel_rfl) (by (simp only [sd129, go_sem, Nat.reduceAdd, Nat.reduceEqDiff, Nat.reduceLT, Nat.reduceLeDiff, bI2, zx.idsL, zx.renL, zx.snapAll, z7.idsL, z7.renL, z7.snapAll]) <;> rfl) (ih (i1 + 1) v4_1 (by omega) hN1 (by first | assumption | omega) (by first | assumption | omega)) (by kernel_rfl)
    | out =>
      exact absurd h10 (isortb_ne (i1 + 1) _ _ (by omega) (by omega) (by omega))
theorem ivt_isortb_1 (l : List Int) : ∀ (rest1 : Nat) (i1 : Nat) (v1_0 : List Int) (hk1 : (((l.length : Nat) : Int) - ((i1 : Nat) : Int)).toNat = rest1) (hN1 : ((l.length : Nat) : Int) ≤ 9223372036854775807) (hn : l.length ≤ 12) (hl1_v1_0 : v1_0.length = l.length), iv_isortb_1 l (isortb_1 rest1 i1 v1_0) := by
  intro rest1
  induction rest1 with
  | zero =>
    intro i1 v1_0 hk1 hN1 hn hl1_v1_0
    unfold isortb_1
    exact hl1_v1_0
  | succ rest1 ih =>
    intro i1 v1_0 hk1 hN1 hn hl1_v1_0
    have hlt1 := of_decide_eq_true (ct_at hk1)
    unfold isortb_1
    cases h10 : isortb_4 (i1 + 1) ((i1 : Nat) : Int) v1_0 with
    | x0 v4_0 v4_1 =>
      try dsimp only
      have hv_h10 := ivt_isortb_4 l ((i1 : Nat) : Int) (i1 + 1) ((i1 : Nat) : Int) v1_0 (isortb_ne (i1 + 1) _ _ (by omega) (by omega) (by omega)) (by first | assumption | omega) (by first | assumption | omega)
      rw [h10] at hv_h10
      obtain ⟨hv_h10_0, hv_h10_1⟩ := hv_h10
      try dsimp only [iv_isortb_4] at hv_h10_0
      try dsimp only [iv_isortb_4] at hv_h10_1
      exact ih (i1 + 1) v4_1 (by omega) hN1 (by first | assumption | omega) (by first | assumption | omega)
    | x1 v4_0 v4_1 =>
      try dsimp only
      have hv_h10 := ivt_isortb_4 l ((i1 : Nat) : Int) (i1 + 1) ((i1 : Nat) : Int) v1_0 (isortb_ne (i1 + 1) _ _ (by omega) (by omega) (by omega)) (by first | assumption | omega) (by first | assumption | omega)
      rw [h10] at hv_h10
      obtain ⟨hv_h10_0, hv_h10_1⟩ := hv_h10
      try dsimp only [iv_isortb_4] at hv_h10_0
      try dsimp only [iv_isortb_4] at hv_h10_1
      exact ih (i1 + 1) v4_1 (by omega) hN1 (by first | assumption | omega) (by first | assumption | omega)
    | out =>
      exact absurd h10 (isortb_ne (i1 + 1) _ _ (by omega) (by omega) (by omega))

def isortb (l : List Int) : List Int :=
  match isortb_1 (((l.length : Nat) : Int) - 1).toNat 1 l with
  | .x0 i1 v1_0 =>
    v1_0

def sd130 (l : List Int) (i1 : Nat) (v1_0 : List Int) : St := ⟨49, [(12, B false), (11, I ((l.length : Nat) : Int)), (10, I ((i1 : Nat) : Int)), (0, .lsl 4 0 l.length 1 none), (1, I 0), (2, I ((l.length : Nat) : Int)), (6, I ((i1 : Nat) : Int))], [(4, ⟨v1_0.map I, 1, false⟩)], 5, 5⟩

theorem I_isortb (l : List Int) (hl : l.length ≤ 12) : (lim cfg).inl 100 [.lsl 4 0 l.length 1 none, I 0, I ((l.length : Nat) : Int)] [(4, ⟨l.map I, 1, false⟩)] 5 = some (.tup [], [(4, ⟨(isortb l).map I, 1, false⟩)], 5) := by
  unfold isortb
  cases h11 : isortb_1 (((l.length : Nat) : Int) - 1).toNat 1 l with
  | x0 i1 v1_0 =>
    try dsimp only
    have hv_h11 := ivt_isortb_1 l (((l.length : Nat) : Int) - 1).toNat 1 l (by omega) (by first | assumption | omega) (by first | assumption | omega) (by first | assumption | omega)
    rw [h11] at hv_h11
    have hv_h11_0 := hv_h11
    try dsimp only [iv_isortb_1] at hv_h11_0
    exact po_inl [.gloop ⟨49, [(0, .lsl 4 0 l.length 1 none), (1, I 0), (2, I ((l.length : Nat) : Int)), (6, I 1)], [(4, ⟨l.map I, 1, false⟩)], 5, 5⟩ (.exit 0) (sd130 l i1 v1_0)] (And.intro (po_lr (q := lr_isortb_1 l) (lp_isortb_1 l (((l.length : Nat) : Int) - 1).toNat 1 l (by omega) (by first | assumption | omega) (by first | assumption | omega) (by first | assumption | omega)) h11) (And.intro (gc_of (C := cfg) (f := 100) (a := lp100_1) (ks := [0, 1, 2, 6]) (st := ⟨49, [(6, I 1), (9, I 1), (8, I 0), (0, .lsl 4 0 l.length 1 none), (1, I 0), (2, I ((l.length : Nat) : Int))], [(4, ⟨l.map I, 1, false⟩)], 5, 5⟩) (st1 := ⟨49, [(0, .lsl 4 0 l.length 1 none), (1, I 0), (2, I ((l.length : Nat) : Int)), (6, I 1)], [(4, ⟨l.map I, 1, false⟩)], 5, 5⟩) (by kernel_rfl) (by (simp only [go_sem, Nat.reduceAdd, Nat.reduceEqDiff, Nat.reduceLT, Nat.reduceLeDiff, bI2, zx.idsL, zx.renL, zx.snapAll, z7.idsL, z7.renL, z7.snapAll]) <;> rfl)) trivial)) (by kernel_rfl)

def pdqb (l : List Int) (q : Int) : List Int :=
  (isortb l)

def sd131 (l : List Int) (q : Int) : St := ⟨134, [(27, .tup []), (26, I ((l.length : Nat) : Int)), (25, I 0), (24, .lsl 4 0 l.length 1 none), (23, B true), (22, I (w64 (((l.length : Nat) : Int) - 0))), (10, I (w64 (((l.length : Nat) : Int) - 0))), (21, I (w64 (((l.length : Nat) : Int) - 0))), (20, I 0), (19, I ((l.length : Nat) : Int)), (0, .lsl 4 0 l.length 1 none), (1, I 0), (2, I ((l.length : Nat) : Int)), (3, I q), (8, B true), (9, B true)], [(4, ⟨(isortb l).map I, 1, false⟩)], 5, 5⟩

theorem I_pdqb (l : List Int) (q : Int) (hl : l.length ≤ 12) : (lim cfg).inl 80 [.lsl 4 0 l.length 1 none, I 0, I ((l.length : Nat) : Int), I q] [(4, ⟨l.map I, 1, false⟩)] 5 = some (.tup [], [(4, ⟨(pdqb l q).map I, 1, false⟩)], 5) := by
  unfold pdqb
  have l1 := (show decide ((w64 (((l.length : Nat) : Int) - 0)) ≤ 12) = true from (decide_eq_true (by first | assumption | omega | (simp only [zc] at * <;> omega))))
  have l2 := (And.intro (show zV [(4, ⟨l.map I, 1, false⟩)] 256 [4] [] = some [4] from (by (simp only [zV, go_sem, Nat.reduceAdd, Nat.reduceEqDiff, Nat.reduceLT, Nat.reduceLeDiff, bI2, zx.idsL, zx.renL, zx.snapAll, z7.idsL, z7.renL, z7.snapAll]) <;> rfl)) (I_isortb l (by first | assumption | omega)))
  exact po_inl [.gloop ⟨134, [(0, .lsl 4 0 l.length 1 none), (1, I 0), (2, I ((l.length : Nat) : Int)), (3, I q), (8, B true), (9, B true)], [(4, ⟨l.map I, 1, false⟩)], 5, 5⟩ .ret (sd131 l q)] (And.intro (show (lim cfg).loop 80 lp80_2 ⟨134, [(0, .lsl 4 0 l.length 1 none), (1, I 0), (2, I ((l.length : Nat) : Int)), (3, I q), (8, B true), (9, B true)], [(4, ⟨l.map I, 1, false⟩)], 5, 5⟩ = some (.ret, (sd131 l q)) from (zQ [.dec true, .inlS [4] (.tup []) [(4, ⟨(isortb l).map I, 1, false⟩)] 5] (And.intro (l2) (And.intro (l1) trivial)) (by kernel_rfl))) (And.intro (gc_of (C := cfg) (f := 80) (a := lp80_2) (ks := [0, 1, 2, 3, 8, 9]) (st := ⟨134, [(9, B true), (8, B true), (0, .lsl 4 0 l.length 1 none), (1, I 0), (2, I ((l.length : Nat) : Int)), (3, I q)], [(4, ⟨l.map I, 1, false⟩)], 5, 5⟩) (st1 := ⟨134, [(0, .lsl 4 0 l.length 1 none), (1, I 0), (2, I ((l.length : Nat) : Int)), (3, I q), (8, B true), (9, B true)], [(4, ⟨l.map I, 1, false⟩)], 5, 5⟩) (by kernel_rfl) (by (simp only [go_sem, Nat.reduceAdd, Nat.reduceEqDiff, Nat.reduceLT, Nat.reduceLeDiff, bI2, zx.idsL, zx.renL, zx.snapAll, z7.idsL, z7.renL, z7.snapAll]) <;> rfl)) trivial)) (by kernel_rfl)

def zm (l : List Int) : List Int :=
  (pdqb l (bl12 ((l.length : Nat) : Int)))

theorem I_sortb (l : List Int) (hl : l.length ≤ 12) : (lim cfg).inl 38 [.lsl 4 0 l.length 1 none] [(4, ⟨l.map I, 1, false⟩)] 5 = some (.tup [], [(4, ⟨(zm l).map I, 1, false⟩)], 5) := by
  unfold zm
  exact po_inl [.pure (I (bl12 ((l.length : Nat) : Int))), .inlS [4] (.tup []) [(4, ⟨(pdqb l (bl12 ((l.length : Nat) : Int))).map I, 1, false⟩)] 5] (And.intro (And.intro (show zV [(4, ⟨l.map I, 1, false⟩)] 256 [4] [] = some [4] from (by (simp only [zV, go_sem, Nat.reduceAdd, Nat.reduceEqDiff, Nat.reduceLT, Nat.reduceLeDiff, bI2, zx.idsL, zx.renL, zx.snapAll, z7.idsL, z7.renL, z7.snapAll]) <;> rfl)) (I_pdqb l (bl12 ((l.length : Nat) : Int)) (by first | assumption | omega))) (And.intro (T_bl (n := ((l.length : Nat) : Int)) (by first | assumption | omega) (by first | assumption | omega)) trivial)) (by kernel_rfl)

def sd132 (l : List Int) (q4_0 : Int) (v4_0 : Int) (v4_1 : List Int) : St := ⟨49, [(7, I (w64 (v4_0 - 1))), (32, I (w64 (v4_0 - 1))), (31, I v4_0), (48, .lref 5 ((w64 (v4_0 - 1)).toNat) 1 0), (47, .lref 5 ((v4_0).toNat) 1 0), (46, I (v4_1.getD ((v4_0).toNat) default)), (45, .lref 5 ((v4_0).toNat) 1 0), (44, I v4_0), (43, .lsl 5 0 l.length 1 none), (42, I (v4_1.getD ((w64 (v4_0 - 1)).toNat) default)), (41, .lref 5 ((w64 (v4_0 - 1)).toNat) 1 0), (40, I (w64 (v4_0 - 1))), (39, I v4_0), (38, .lsl 5 0 l.length 1 none), (37, I (w64 (v4_0 - 1))), (36, I v4_0), (35, .lsl 5 0 l.length 1 none), (34, I v4_0), (33, .lsl 5 0 l.length 1 none), (30, B true), (29, B true), (28, I (v4_1.getD ((w64 (v4_0 - 1)).toNat) default)), (27, .lref 5 ((w64 (v4_0 - 1)).toNat) 1 0), (26, I (w64 (v4_0 - 1))), (25, I v4_0), (24, .lsl 5 0 l.length 1 none), (23, I (v4_1.getD ((v4_0).toNat) default)), (22, .lref 5 ((v4_0).toNat) 1 0), (21, I v4_0), (20, .lsl 5 0 l.length 1 none), (19, B true), (18, B true), (17, I 0), (16, I v4_0), (0, .lsl 5 0 l.length 1 none), (1, I 0), (2, I ((l.length : Nat) : Int)), (6, I q4_0), (7, I v4_0)], [(5, ⟨((v4_1.set ((v4_0).toNat) (v4_1.getD ((w64 (v4_0 - 1)).toNat) default)).set ((w64 (v4_0 - 1)).toNat) (v4_1.getD ((v4_0).toNat) default)).map I, 1, false⟩)], 6, 6⟩

inductive LR_isortc_4 where
  | x0 (v4_0 : Int) (v4_1 : List Int)
  | x1 (v4_0 : Int) (v4_1 : List Int)
  | out
instance : Inhabited LR_isortc_4 := ⟨.out⟩
def isortc_4 : Nat → Int → (List Int) → LR_isortc_4
  | 0, _, _ => .out
  | rest4 + 1, v4_0, v4_1 =>
    bif decide (v4_0 > 0) then
      bif (cmp_Less (v4_1.getD ((v4_0).toNat) default) (v4_1.getD ((w64 (v4_0 - 1)).toNat) default)) then
        isortc_4 rest4 (w64 (v4_0 - 1)) ((v4_1.set ((v4_0).toNat) (v4_1.getD ((w64 (v4_0 - 1)).toNat) default)).set ((w64 (v4_0 - 1)).toNat) (v4_1.getD ((v4_0).toNat) default))
      else
        .x0 v4_0 v4_1
    else
      .x1 v4_0 v4_1
def lr_isortc_4 (l : List Int) (q4_0 : Int) : LR_isortc_4 → Exit × St
  | .x0 v4_0 v4_1 => ((.exit 2), ⟨49, [(30, B false), (29, B false), (28, I (v4_1.getD ((w64 (v4_0 - 1)).toNat) default)), (27, .lref 5 ((w64 (v4_0 - 1)).toNat) 1 0), (26, I (w64 (v4_0 - 1))), (25, I v4_0), (24, .lsl 5 0 l.length 1 none), (23, I (v4_1.getD ((v4_0).toNat) default)), (22, .lref 5 ((v4_0).toNat) 1 0), (21, I v4_0), (20, .lsl 5 0 l.length 1 none), (19, B true), (18, B true), (17, I 0), (16, I v4_0), (0, .lsl 5 0 l.length 1 none), (1, I 0), (2, I ((l.length : Nat) : Int)), (6, I q4_0), (7, I v4_0)], [(5, ⟨v4_1.map I, 1, false⟩)], 6, 6⟩)
  | .x1 v4_0 v4_1 => ((.exit 2), ⟨49, [(30, B false), (29, .tup []), (28, .tup []), (27, .tup []), (26, .tup []), (25, .tup []), (24, .tup []), (23, .tup []), (22, .tup []), (21, .tup []), (20, .tup []), (19, B false), (18, B false), (17, I 0), (16, I v4_0), (0, .lsl 5 0 l.length 1 none), (1, I 0), (2, I ((l.length : Nat) : Int)), (6, I q4_0), (7, I v4_0)], [(5, ⟨v4_1.map I, 1, false⟩)], 6, 6⟩)
  | .out => (.normal, ⟨0, [], [], 0, 0⟩)
def iv_isortc_4 (l : List Int) (q4_0 : Int) : LR_isortc_4 → Prop
  | .x0 v4_0 v4_1 => (0 ≤ v4_0 ∧ v4_0 < ((l.length : Nat) : Int) ∧ l.length ≤ 12) ∧ (v4_1.length = l.length)
  | .x1 v4_0 v4_1 => (0 ≤ v4_0 ∧ v4_0 < ((l.length : Nat) : Int) ∧ l.length ≤ 12) ∧ (v4_1.length = l.length)
  | .out => True
def isortc_4_f_o1 (v4_0 : Int) (v4_1 : List Int) : List Ora := [.dec true, .op (some 22) ⟨.lref 5 ((v4_0).toNat) 1 0, [], [], 6⟩, .op (some 23) ⟨I (v4_1.getD ((v4_0).toNat) default), [], [5], 6⟩, .op (some 27) ⟨.lref 5 ((w64 (v4_0 - 1)).toNat) 1 0, [], [], 6⟩, .op (some 28) ⟨I (v4_1.getD ((w64 (v4_0 - 1)).toNat) default), [], [5], 6⟩, .pure (B (cmp_Less (v4_1.getD ((v4_0).toNat) default) (v4_1.getD ((w64 (v4_0 - 1)).toNat) default)))]
theorem lp_isortc_4 (l : List Int) (q4_0 : Int) : ∀ (rest4 : Nat) (v4_0 : Int) (v4_1 : List Int) (hf4 : isortc_4 rest4 v4_0 v4_1 ≠ .out) (hj : 0 ≤ v4_0 ∧ v4_0 < ((l.length : Nat) : Int) ∧ l.length ≤ 12) (hl4_v4_1 : v4_1.length = l.length), (lim cfg).loop 100 lp100_4 ⟨49, [(0, .lsl 5 0 l.length 1 none), (1, I 0), (2, I ((l.length : Nat) : Int)), (6, I q4_0), (7, I v4_0)], [(5, ⟨v4_1.map I, 1, false⟩)], 6, 6⟩ = some (lr_isortc_4 l q4_0 (isortc_4 rest4 v4_0 v4_1)) := by
  intro rest4
  induction rest4 with
  | zero =>
    intro v4_0 v4_1 hf4 hj hl4_v4_1
    exact absurd rfl hf4
  | succ rest4 ih =>
    intro v4_0 v4_1 hf4 hj hl4_v4_1
    unfold isortc_4 at hf4 ⊢
    revert hf4
    cases h8 : decide (v4_0 > 0) with
    | true =>
      have g8 := of_decide_eq_true h8
      have p1 := (idx_row (C := cfg) (nxt := 6) (t := 37) (ty := ty37) (te := ty3) (e := 3) (o := 5) (len := l.length) (sz := 1) (cap := none) (i := v4_0) (by kernel_rfl) rfl (by kernel_rfl) rfl (by first | assumption | omega) (by first | assumption | omega))
      have p2 := (load_row (C := cfg) (objs := [(5, ⟨v4_1.map I, 1, false⟩)]) (nxt := 6) (t := 3) (ty := ty3) (o := 5) (n := (v4_0).toNat) (sz := 1) (sub := 0) (ob := ⟨v4_1.map I, 1, false⟩) (e := I (v4_1.getD ((v4_0).toNat) default)) (d := I (v4_1.getD ((v4_0).toNat) default)) (by kernel_rfl) (by kernel_rfl) rfl (row_get (f := I) (by first | assumption | omega)) (by kernel_rfl))
      have p3 := (idx_row (C := cfg) (nxt := 6) (t := 37) (ty := ty37) (te := ty3) (e := 3) (o := 5) (len := l.length) (sz := 1) (cap := none) (i := w64 (v4_0 - 1)) (by kernel_rfl) rfl (by kernel_rfl) rfl (by first | assumption | omega | (simp only [zc] at * <;> omega)) (by first | assumption | omega | (simp only [zc] at * <;> omega)))
      have p4 := (load_row (C := cfg) (objs := [(5, ⟨v4_1.map I, 1, false⟩)]) (nxt := 6) (t := 3) (ty := ty3) (o := 5) (n := (w64 (v4_0 - 1)).toNat) (sz := 1) (sub := 0) (ob := ⟨v4_1.map I, 1, false⟩) (e := I (v4_1.getD ((w64 (v4_0 - 1)).toNat) default)) (d := I (v4_1.getD ((w64 (v4_0 - 1)).toNat) default)) (by kernel_rfl) (by kernel_rfl) rfl (row_get (f := I) (by first | assumption | omega | (simp only [zc] at * <;> omega))) (by kernel_rfl))
      have p5 := (T_cmp_Less (v4_1.getD ((v4_0).toNat) default) (v4_1.getD ((w64 (v4_0 - 1)).toNat) default))
      cases h9 : (cmp_Less (v4_1.getD ((v4_0).toNat) default) (v4_1.getD ((w64 (v4_0 - 1)).toNat) default)) with
      | true =>
        intro hf4
        exact po_turn' (ks := [0, 1, 2, 6, 7]) (st' := (sd132 l q4_0 v4_0 v4_1)) ((isortc_4_f_o1 v4_0 v4_1) ++ [.dec true, .op (some 41) ⟨.lref 5 ((w64 (v4_0 - 1)).toNat) 1 0, [], [], 6⟩, .op (some 42) ⟨I (v4_1.getD ((w64 (v4_0 - 1)).toNat) default), [], [5], 6⟩, .op (some 45) ⟨.lref 5 ((v4_0).toNat) 1 0, [], [], 6⟩, .op (some 46) ⟨I (v4_1.getD ((v4_0).toNat) default), [], [5], 6⟩, .op (some 47) ⟨.lref 5 ((v4_0).toNat) 1 0, [], [], 6⟩, .stS 5 ⟨.tup [], [(5, some ⟨(v4_1.set ((v4_0).toNat) (v4_1.getD ((w64 (v4_0 - 1)).toNat) default)).map I, 1, false⟩)], [5], 6⟩, .op (some 48) ⟨.lref 5 ((w64 (v4_0 - 1)).toNat) 1 0, [], [], 6⟩, .stS 5 ⟨.tup [], [(5, some ⟨((v4_1.set ((v4_0).toNat) (v4_1.getD ((w64 (v4_0 - 1)).toNat) default)).set ((w64 (v4_0 - 1)).toNat) (v4_1.getD ((v4_0).toNat) default)).map I, 1, false⟩)], [5], 6⟩]) (And.intro (store_row (C := cfg) (objs := [(5, ⟨(v4_1.set ((v4_0).toNat) (v4_1.getD ((w64 (v4_0 - 1)).toNat) default)).map I, 1, false⟩)]) (nxt := 6) (t := 3) (ty := ty3) (o := 5) (n := (w64 (v4_0 - 1)).toNat) (sz := 1) (sub := 0) (els := (v4_1.set ((v4_0).toNat) (v4_1.getD ((w64 (v4_0 - 1)).toNat) default)).map I) (els' := ((v4_1.set ((v4_0).toNat) (v4_1.getD ((w64 (v4_0 - 1)).toNat) default)).set ((w64 (v4_0 - 1)).toNat) (v4_1.getD ((v4_0).toNat) default)).map I) (e := I ((v4_1.set ((v4_0).toNat) (v4_1.getD ((w64 (v4_0 - 1)).toNat) default)).getD ((w64 (v4_0 - 1)).toNat) default)) (e' := I (v4_1.getD ((v4_0).toNat) default)) (v := I (v4_1.getD ((v4_0).toNat) default)) (by kernel_rfl) (by kernel_rfl) (row_get (f := I) (by first | assumption | omega | (with_reducible exact zr) | (with_reducible exact Nat.le_trans zA (by omega)) | (simp only [zc] at * <;> omega) | (simp only [zd, za, zb, z9, zg, GS.some_l, List.length_set, List.length_append, List.length_cons, List.length_nil] at * <;> first | with_reducible assumption | omega) | (simp only [zd, za, zb, z9, zg, GS.some_l, List.length_set, List.length_append, List.length_cons, List.length_nil, zc] at * <;> first | with_reducible assumption | omega) | (simp at * <;> omega))) rfl (by kernel_rfl) rfl (by kernel_rfl) (row_set (f := I))) (And.intro (idx_row (C := cfg) (nxt := 6) (t := 37) (ty := ty37) (te := ty3) (e := 3) (o := 5) (len := l.length) (sz := 1) (cap := none) (i := w64 (v4_0 - 1)) (by kernel_rfl) rfl (by kernel_rfl) rfl (by first | assumption | omega | (simp only [zc] at * <;> omega)) (by first | assumption | omega | (simp only [zc] at * <;> omega))) (And.intro (store_row (C := cfg) (objs := [(5, ⟨v4_1.map I, 1, false⟩)]) (nxt := 6) (t := 3) (ty := ty3) (o := 5) (n := (v4_0).toNat) (sz := 1) (sub := 0) (els := v4_1.map I) (els' := (v4_1.set ((v4_0).toNat) (v4_1.getD ((w64 (v4_0 - 1)).toNat) default)).map I) (e := I (v4_1.getD ((v4_0).toNat) default)) (e' := I (v4_1.getD ((w64 (v4_0 - 1)).toNat) default)) (v := I (v4_1.getD ((w64 (v4_0 - 1)).toNat) default)) (by kernel_rfl) (by kernel_rfl) (row_get (f := I) (by first | assumption | omega)) rfl (by kernel_rfl) rfl (by kernel_rfl) (row_set (f := I))) (And.intro (idx_row (C := cfg) (nxt := 6) (t := 37) (ty := ty37) (te := ty3) (e := 3) (o := 5) (len := l.length) (sz := 1) (cap := none) (i := v4_0) (by kernel_rfl) rfl (by kernel_rfl) rfl (by first | assumption | omega) (by first | assumption | omega)) (And.intro (load_row (C := cfg) (objs := [(5, ⟨v4_1.map I, 1, false⟩)]) (nxt := 6) (t := 3) (ty := ty3) (o := 5) (n := (v4_0).toNat) (sz := 1) (sub := 0) (ob := ⟨v4_1.map I, 1, false⟩) (e := I (v4_1.getD ((v4_0).toNat) default)) (d := I (v4_1.getD ((v4_0).toNat) default)) (by kernel_rfl) (by kernel_rfl) rfl (row_get (f := I) (by first | assumption | omega)) (by kernel_rfl)) (And.intro (idx_row (C := cfg) (nxt := 6) (t := 37) (ty := ty37) (te := ty3) (e := 3) (o := 5) (len := l.length) (sz := 1) (cap := none) (i := v4_0) (by kernel_rfl) rfl (by kernel_rfl) rfl (by first | assumption | omega) (by first | assumption | omega)) (And.intro (load_row (C := cfg) (objs := [(5, ⟨v4_1.map I, 1, false⟩)]) (nxt := 6) (t := 3) (ty := ty3) (o := 5) (n := (w64 (v4_0 - 1)).toNat) (sz := 1) (sub := 0) (ob := ⟨v4_1.map I, 1, false⟩) (e := I (v4_1.getD ((w64 (v4_0 - 1)).toNat) default)) (d := I (v4_1.getD ((w64 (v4_0 - 1)).toNat) default)) (by kernel_rfl) (by kernel_rfl) rfl (row_get (f := I) (by first | assumption | omega | (simp only [zc] at * <;> omega))) (by kernel_rfl)) (And.intro (idx_row (C := cfg) (nxt := 6) (t := 37) (ty := ty37) (te := ty3) (e := 3) (o := 5) (len := l.length) (sz := 1) (cap := none) (i := w64 (v4_0 - 1)) (by kernel_rfl) rfl (by kernel_rfl) rfl (by first | assumption | omega | (simp only [zc] at * <;> omega)) (by first | assumption | omega | (simp only [zc] at * <;> omega))) (And.intro h9 (And.intro p5 (And.intro p4 (And.intro p3 (And.intro p2 (And.intro p1 (And.intro h8 trivial))))))))))))))) (by kernel_rfl) (by (simp only [sd132, go_sem, Nat.reduceAdd, Nat.reduceEqDiff, Nat.reduceLT, Nat.reduceLeDiff, bI2, zx.idsL, zx.renL, zx.snapAll, z7.idsL, z7.renL, z7.snapAll]) <;> rfl) (ih (w64 (v4_0 - 1)) ((v4_1.set ((v4_0).toNat) (v4_1.getD ((w64 (v4_0 - 1)).toNat) default)).set ((w64 (v4_0 - 1)).toNat) (v4_1.getD ((v4_0).toNat) default)) hf4 (by first | assumption | omega | (simp only [zc] at * <;> omega)) (by first | assumption | omega | (with_reducible exact zr) | (with_reducible exact Nat.le_trans zA (by omega)) | (simp only [zc] at * <;> omega) | (simp only [zd, za, zb, z9, zg, GS.some_l, List.length_set, List.length_append, List.length_cons, List.length_nil] at * <;> first | with_reducible assumption | omega) | (simp only [zd, za, zb, z9, zg, GS.some_l, List.length_set, List.length_append, List.length_cons, List.length_nil, zc] at * <;> first | with_reducible assumption | omega) | (simp at * <;> omega))) (by kernel_rfl)
      | false =>
        intro hf4
        exact zQ ((isortc_4_f_o1 v4_0 v4_1) ++ [.dec false]) (And.intro h9 (And.intro p5 (And.intro p4 (And.intro p3 (And.intro p2 (And.intro p1 (And.intro h8 trivial))))))) (by kernel_rfl)
    | false =>
      have g8 := of_decide_eq_false h8
      intro hf4
      exact zQ [.dec false] (And.intro h8 trivial) (by kernel_rfl)
theorem ivt_isortc_4 (l : List Int) (q4_0 : Int) : ∀ (rest4 : Nat) (v4_0 : Int) (v4_1 : List Int) (hf4 : isortc_4 rest4 v4_0 v4_1 ≠ .out) (hj : 0 ≤ v4_0 ∧ v4_0 < ((l.length : Nat) : Int) ∧ l.length ≤ 12) (hl4_v4_1 : v4_1.length = l.length), iv_isortc_4 l q4_0 (isortc_4 rest4 v4_0 v4_1) := by
  intro rest4
  induction rest4 with
  | zero =>
    intro v4_0 v4_1 hf4 hj hl4_v4_1
    exact absurd rfl hf4
  | succ rest4 ih =>
    intro v4_0 v4_1 hf4 hj hl4_v4_1
    unfold isortc_4 at hf4 ⊢
    revert hf4
    cases h8 : decide (v4_0 > 0) with
    | true =>
      have g8 := of_decide_eq_true h8
      cases h9 : (cmp_Less (v4_1.getD ((v4_0).toNat) default) (v4_1.getD ((w64 (v4_0 - 1)).toNat) default)) with
      | true =>
        intro hf4
        exact ih (w64 (v4_0 - 1)) ((v4_1.set ((v4_0).toNat) (v4_1.getD ((w64 (v4_0 - 1)).toNat) default)).set ((w64 (v4_0 - 1)).toNat) (v4_1.getD ((v4_0).toNat) default)) hf4 (by first | assumption | omega | (simp only [zc] at * <;> omega)) (by first | assumption | omega | (with_reducible exact zr) | (with_reducible exact Nat.le_trans zA (by omega)) | (simp only [zc] at * <;> omega) | (simp only [zd, za, zb, z9, zg, GS.some_l, List.length_set, List.length_append, List.length_cons, List.length_nil] at * <;> first | with_reducible assumption | omega) | (simp only [zd, za, zb, z9, zg, GS.some_l, List.length_set, List.length_append, List.length_cons, List.length_nil, zc] at * <;> first | with_reducible assumption | omega) | (simp at * <;> omega))
      | false =>
        intro hf4
        exact ⟨hj, hl4_v4_1⟩
    | false =>
      have g8 := of_decide_eq_false h8
      intro hf4
      exact ⟨hj, hl4_v4_1⟩

theorem isortc_ne : ∀ (n : Nat) (j : Int) (v : List Int), 0 ≤ j → j < n → j ≤ 12 → isortc_4 n j v ≠ .out
  | 0, j, v, h0, h1, _ => by omega
  | n + 1, j, v, h0, h1, h5 => by
    unfold isortc_4
    cases h2 : decide (j > 0) with
    | false => simp
    | true =>
      have := of_decide_eq_true h2
      cases h3 : cmp_Less (v.getD j.toNat default) (v.getD (w64 (j - 1)).toNat default) with
      | false => simp
      | true =>
        simp only [cond_true]
        exact isortc_ne n _ _ (by rw [w64_eq (by omega) (by omega)]; omega) (by rw [w64_eq (by omega) (by omega)]; omega) (by rw [w64_eq (by omega) (by omega)]; omega)

def sd139 (l : List Int) (i1 : Nat) (v4_0 : Int) (v4_1 : List Int) : St := ⟨49, [(6, I ((i1 + 1 : Nat) : Int)), (14, I ((i1 + 1 : Nat) : Int)), (13, I ((i1 : Nat) : Int)), (30, B false), (29, B false), (28, I (v4_1.getD ((w64 (v4_0 - 1)).toNat) default)), (27, .lref 5 ((w64 (v4_0 - 1)).toNat) 1 0), (26, I (w64 (v4_0 - 1))), (25, I v4_0), (24, .lsl 5 0 l.length 1 none), (23, I (v4_1.getD ((v4_0).toNat) default)), (22, .lref 5 ((v4_0).toNat) 1 0), (21, I v4_0), (20, .lsl 5 0 l.length 1 none), (19, B true), (18, B true), (17, I 0), (16, I v4_0), (0, .lsl 5 0 l.length 1 none), (1, I 0), (2, I ((l.length : Nat) : Int)), (6, I ((i1 : Nat) : Int)), (7, I v4_0)], [(5, ⟨v4_1.map I, 1, false⟩)], 6, 6⟩

def sd138 (l : List Int) (i1 : Nat) (v1_0 : List Int) : St := ⟨49, [(0, .lsl 5 0 l.length 1 none), (1, I 0), (2, I ((l.length : Nat) : Int)), (6, I ((i1 : Nat) : Int)), (7, I ((i1 : Nat) : Int))], [(5, ⟨v1_0.map I, 1, false⟩)], 6, 6⟩

def sd135 (l : List Int) (i1 : Nat) (v4_0 : Int) (v4_1 : List Int) : St := ⟨49, [(30, B false), (29, B false), (28, I (v4_1.getD ((w64 (v4_0 - 1)).toNat) default)), (27, .lref 5 ((w64 (v4_0 - 1)).toNat) 1 0), (26, I (w64 (v4_0 - 1))), (25, I v4_0), (24, .lsl 5 0 l.length 1 none), (23, I (v4_1.getD ((v4_0).toNat) default)), (22, .lref 5 ((v4_0).toNat) 1 0), (21, I v4_0), (20, .lsl 5 0 l.length 1 none), (19, B true), (18, B true), (17, I 0), (16, I v4_0), (0, .lsl 5 0 l.length 1 none), (1, I 0), (2, I ((l.length : Nat) : Int)), (6, I ((i1 : Nat) : Int)), (7, I v4_0)], [(5, ⟨v4_1.map I, 1, false⟩)], 6, 6⟩

def sd137 (l : List Int) (i1 : Nat) (v1_0 : List Int) : St := ⟨49, [(7, I ((i1 : Nat) : Int)), (15, I ((i1 : Nat) : Int)), (12, B true), (11, I ((l.length : Nat) : Int)), (10, I ((i1 : Nat) : Int)), (0, .lsl 5 0 l.length 1 none), (1, I 0), (2, I ((l.length : Nat) : Int)), (6, I ((i1 : Nat) : Int))], [(5, ⟨v1_0.map I, 1, false⟩)], 6, 6⟩

def sd140 (l : List Int) (i1 : Nat) (v4_0 : Int) (v4_1 : List Int) : St := ⟨49, [(6, I ((i1 + 1 : Nat) : Int)), (14, I ((i1 + 1 : Nat) : Int)), (13, I ((i1 : Nat) : Int)), (30, B false), (29, .tup []), (28, .tup []), (27, .tup []), (26, .tup []), (25, .tup []), (24, .tup []), (23, .tup []), (22, .tup []), (21, .tup []), (20, .tup []), (19, B false), (18, B false), (17, I 0), (16, I v4_0), (0, .lsl 5 0 l.length 1 none), (1, I 0), (2, I ((l.length : Nat) : Int)), (6, I ((i1 : Nat) : Int)), (7, I v4_0)], [(5, ⟨v4_1.map I, 1, false⟩)], 6, 6⟩

def sd136 (l : List Int) (i1 : Nat) (v4_0 : Int) (v4_1 : List Int) : St := ⟨49, [(30, B false), (29, .tup []), (28, .tup []), (27, .tup []), (26, .tup []), (25, .tup []), (24, .tup []), (23, .tup []), (22, .tup []), (21, .tup []), (20, .tup []), (19, B false), (18, B false), (17, I 0), (16, I v4_0), (0, .lsl 5 0 l.length 1 none), (1, I 0), (2, I ((l.length : Nat) : Int)), (6, I ((i1 : Nat) : Int)), (7, I v4_0)], [(5, ⟨v4_1.map I, 1, false⟩)], 6, 6⟩

inductive LR_isortc_1 where
  | x0 (i1 : Nat) (v1_0 : List Int)
instance : Inhabited LR_isortc_1 := ⟨.x0 default default⟩
def isortc_1 : Nat → Nat → (List Int) → LR_isortc_1
  | 0, i1, v1_0 => .x0 i1 v1_0
  | rest1 + 1, i1, v1_0 =>
    match isortc_4 (i1 + 1) ((i1 : Nat) : Int) v1_0 with
    | .x0 v4_0 v4_1 =>
      isortc_1 rest1 (i1 + 1) v4_1
    | .x1 v4_0 v4_1 =>
      isortc_1 rest1 (i1 + 1) v4_1
    | .out =>
      default
def lr_isortc_1 (l : List Int) : LR_isortc_1 → Exit × St
  | .x0 i1 v1_0 => ((.exit 0), ⟨49, [(12, B false), (11, I ((l.length : Nat) : Int)), (10, I ((i1 : Nat) : Int)), (0, .lsl 5 0 l.length 1 none), (1, I 0), (2, I ((l.length : Nat) : Int)), (6, I ((i1 : Nat) : Int))], [(5, ⟨v1_0.map I, 1, false⟩)], 6, 6⟩)
def iv_isortc_1 (l : List Int) : LR_isortc_1 → Prop
  | .x0 i1 v1_0 => (v1_0.length = l.length)
theorem lp_isortc_1 (l : List Int) : ∀ (rest1 : Nat) (i1 : Nat) (v1_0 : List Int) (hk1 : (((l.length : Nat) : Int) - ((i1 : Nat) : Int)).toNat = rest1) (hN1 : ((l.length : Nat) : Int) ≤ 9223372036854775807) (hn : l.length ≤ 12) (hl1_v1_0 : v1_0.length = l.length), (lim cfg).loop 100 lp100_1 ⟨49, [(0, .lsl 5 0 l.length 1 none), (1, I 0), (2, I ((l.length : Nat) : Int)), (6, I ((i1 : Nat) : Int))], [(5, ⟨v1_0.map I, 1, false⟩)], 6, 6⟩ = some (lr_isortc_1 l (isortc_1 rest1 i1 v1_0)) := by
  intro rest1
  induction rest1 with
  | zero =>
    intro i1 v1_0 hk1 hN1 hn hl1_v1_0
    unfold isortc_1
    exact zQ [.dec false] (And.intro (ct_no hk1) trivial) (by kernel_rfl)
  | succ rest1 ih =>
    intro i1 v1_0 hk1 hN1 hn hl1_v1_0
    have hlt1 := of_decide_eq_true (ct_at hk1)
    unfold isortc_1
    cases h10 : isortc_4 (i1 + 1) ((i1 : Nat) : Int) v1_0 with
    | x0 v4_0 v4_1 =>
      try dsimp only
      have hv_h10 := ivt_isortc_4 l ((i1 : Nat) : Int) (i1 + 1) ((i1 : Nat) : Int) v1_0 (isortc_ne (i1 + 1) _ _ (by omega) (by omega) (by omega)) (by first | assumption | omega) (by first | assumption | omega)
      rw [h10] at hv_h10
      obtain ⟨hv_h10_0, hv_h10_1⟩ := hv_h10
      try dsimp only [iv_isortc_4] at hv_h10_0
      try dsimp only [iv_isortc_4] at hv_h10_1
      exact po_turn' (ks := [0, 1, 2, 6]) (st' := (sd139 l i1 v4_0 v4_1)) [.dec true, .gloop (sd138 l i1 v1_0) (.exit 2) (sd135 l i1 v4_0 v4_1), .rw 14 (I ((i1 + 1 : Nat) : Int))] (And.intro (inc_rw (i := i1) (by first | assumption | omega)) (And.intro (po_lr (q := lr_isortc_4 l ((i1 : Nat) : Int)) (lp_isortc_4 l ((i1 : Nat) : Int) (i1 + 1) ((i1 : Nat) : Int) v1_0 (isortc_ne (i1 + 1) _ _ (by omega) (by omega) (by omega)) (by first | assumption | omega) (by first | assumption | omega)) h10) (And.intro (gc_of (C := cfg) (f := 100) (a := lp100_4) (ks := [0, 1, 2, 6, 7]) (st := (sd137 l i1 v1_0)) (st1 := (sd138 l i1 v1_0)) (by kernel_rfl) (by (simp only [sd137, sd138, go_sem, Nat.reduceAdd, Nat.reduceEqDiff, Nat.reduceLT, Nat.reduceLeDiff, bI2, zx.idsL, zx.renL, zx.snapAll, z7.idsL, z7.renL, z7.snapAll]) <;> rfl)) (And.intro (ct_at hk1) trivial)))) (by kernel_rfl) (by (simp only [sd139, go_sem, Nat.reduceAdd, Nat.reduceEqDiff, Nat.reduceLT, Nat.reduceLeDiff, bI2, zx.idsL, zx.renL, zx.snapAll, z7.idsL, z7.renL, z7.snapAll]) <;> rfl) (ih (i1 + 1) v4_1 (by omega) hN1 (by first | assumption | omega) (by first | assumption | omega)) (by kernel_rfl)
    | x1 v4_0 v4_1 =>
      try dsimp only
      have hv_h10 := ivt_isortc_4 l ((i1 : Nat) : Int) (i1 + 1) ((i1 : Nat) : Int) v1_0 (isortc_ne (i1 + 1) _ _ (by omega) (by omega) (by omega)) (by first | assumption | omega) (by first | assumption | omega)
      rw [h10] at hv_h10
      obtain ⟨hv_h10_0, hv_h10_1⟩ := hv_h10
      try dsimp only [iv_isortc_4] at hv_h10_0
      try dsimp only [iv_isortc_4] at hv_h10_1
      exact po_turn' (ks := [0, 1, 2, 6]) (st' := (sd140 l i1 v4_0 v4_1)) [.dec true, .gloop (sd138 l i1 v1_0) (.exit 2) (sd136 l i1 v4_0 v4_1), .rw 14 (I ((i1 + 1 : Nat) : Int))] (And.intro (inc_rw (i := i1) (by first | assumption | omega)) (And.intro (po_lr (q := lr_isortc_4 l ((i1 : Nat) : Int)) (lp_isortc_4 l ((i1 : Nat) : Int) (i1 + 1) ((i1 : Nat) : Int) v1_0 (isortc_ne (i1 + 1) _ _ (by omega) (by omega) (by omega)) (by first | assumption | omega) (by first | assumption | omega)) h10) (And.intro (gc_of (C := cfg) (f := 100) (a := lp100_4) (ks := [0, 1, 2, 6, 7]) (st := (sd137 l i1 v1_0)) (st1 := (sd138 l i1 v1_0)) (by kernel_rfl) (by (simp only [sd137, sd138, go_sem, Nat.reduceAdd, Nat.reduceEqDiff, Nat.reduceLT, Nat.reduceLeDiff, bI2, zx.idsL, zx.renL, zx.snapAll, z7.idsL, z7.renL, z7.snapAll]) <;> rfl)) (And.intro (ct_at hk1) trivial)))) (by kernel_rfl) (by (simp only [sd140, go_sem, Nat.reduceAdd, Nat.reduceEqDiff, Nat.reduceLT, Nat.reduceLeDiff, bI2, zx.idsL, zx.renL, zx.snapAll, z7.idsL, z7.renL, z7.snapAll]) <;> rfl) (ih (i1 + 1) v4_1 (by omega) hN1 (by first | assumption | omega) (by first | assumption | omega)) (by kernel_rfl)
    | out =>
      exact absurd h10 (isortc_ne (i1 + 1) _ _ (by omega) (by omega) (by omega))
theorem ivt_isortc_1 (l : List Int) : ∀ (rest1 : Nat) (i1 : Nat) (v1_0 : List Int) (hk1 : (((l.length : Nat) : Int) - ((i1 : Nat) : Int)).toNat = rest1) (hN1 : ((l.length : Nat) : Int) ≤ 9223372036854775807) (hn : l.length ≤ 12) (hl1_v1_0 : v1_0.length = l.length), iv_isortc_1 l (isortc_1 rest1 i1 v1_0) := by
  intro rest1
  induction rest1 with
  | zero =>
    intro i1 v1_0 hk1 hN1 hn hl1_v1_0
    unfold isortc_1
    exact hl1_v1_0
  | succ rest1 ih =>
    intro i1 v1_0 hk1 hN1 hn hl1_v1_0
    have hlt1 := of_decide_eq_true (ct_at hk1)
    unfold isortc_1
    cases h10 : isortc_4 (i1 + 1) ((i1 : Nat) : Int) v1_0 with
    | x0 v4_0 v4_1 =>
      try dsimp only
      have hv_h10 := ivt_isortc_4 l ((i1 : Nat) : Int) (i1 + 1) ((i1 : Nat) : Int) v1_0 (isortc_ne (i1 + 1) _ _ (by omega) (by omega) (by omega)) (by first | assumption | omega) (by first | assumption | omega)
      rw [h10] at hv_h10
      obtain ⟨hv_h10_0, hv_h10_1⟩ := hv_h10
      try dsimp only [iv_isortc_4] at hv_h10_0
      try dsimp only [iv_isortc_4] at hv_h10_1
      exact ih (i1 + 1) v4_1 (by omega) hN1 (by first | assumption | omega) (by first | assumption | omega)
    | x1 v4_0 v4_1 =>
      try dsimp only
      have hv_h10 := ivt_isortc_4 l ((i1 : Nat) : Int) (i1 + 1) ((i1 : Nat) : Int) v1_0 (isortc_ne (i1 + 1) _ _ (by omega) (by omega) (by omega)) (by first | assumption | omega) (by first | assumption | omega)
      rw [h10] at hv_h10
      obtain ⟨hv_h10_0, hv_h10_1⟩ := hv_h10
      try dsimp only [iv_isortc_4] at hv_h10_0
      try dsimp only [iv_isortc_4] at hv_h10_1
      exact ih (i1 + 1) v4_1 (by omega) hN1 (by first | assumption | omega) (by first | assumption | omega)
    | out =>
      exact absurd h10 (isortc_ne (i1 + 1) _ _ (by omega) (by omega) (by omega))

def isortc (l : List Int) : List Int :=
  match isortc_1 (((l.length : Nat) : Int) - 1).toNat 1 l with
  | .x0 i1 v1_0 =>
    v1_0

def sd141 (l : List Int) (i1 : Nat) (v1_0 : List Int) : St := ⟨49, [(12, B false), (11, I ((l.length : Nat) : Int)), (10, I ((i1 : Nat) : Int)), (0, .lsl 5 0 l.length 1 none), (1, I 0), (2, I ((l.length : Nat) : Int)), (6, I ((i1 : Nat) : Int))], [(5, ⟨v1_0.map I, 1, false⟩)], 6, 6⟩

theorem I_isortc (l : List Int) (hl : l.length ≤ 12) : (lim cfg).inl 100 [.lsl 5 0 l.length 1 none, I 0, I ((l.length : Nat) : Int)] [(5, ⟨l.map I, 1, false⟩)] 6 = some (.tup [], [(5, ⟨(isortc l).map I, 1, false⟩)], 6) := by
  unfold isortc
  cases h11 : isortc_1 (((l.length : Nat) : Int) - 1).toNat 1 l with
  | x0 i1 v1_0 =>
    try dsimp only
    have hv_h11 := ivt_isortc_1 l (((l.length : Nat) : Int) - 1).toNat 1 l (by omega) (by first | assumption | omega) (by first | assumption | omega) (by first | assumption | omega)
    rw [h11] at hv_h11
    have hv_h11_0 := hv_h11
    try dsimp only [iv_isortc_1] at hv_h11_0
    exact po_inl [.gloop ⟨49, [(0, .lsl 5 0 l.length 1 none), (1, I 0), (2, I ((l.length : Nat) : Int)), (6, I 1)], [(5, ⟨l.map I, 1, false⟩)], 6, 6⟩ (.exit 0) (sd141 l i1 v1_0)] (And.intro (po_lr (q := lr_isortc_1 l) (lp_isortc_1 l (((l.length : Nat) : Int) - 1).toNat 1 l (by omega) (by first | assumption | omega) (by first | assumption | omega) (by first | assumption | omega)) h11) (And.intro (gc_of (C := cfg) (f := 100) (a := lp100_1) (ks := [0, 1, 2, 6]) (st := ⟨49, [(6, I 1), (9, I 1), (8, I 0), (0, .lsl 5 0 l.length 1 none), (1, I 0), (2, I ((l.length : Nat) : Int))], [(5, ⟨l.map I, 1, false⟩)], 6, 6⟩) (st1 := ⟨49, [(0, .lsl 5 0 l.length 1 none), (1, I 0), (2, I ((l.length : Nat) : Int)), (6, I 1)], [(5, ⟨l.map I, 1, false⟩)], 6, 6⟩) (by kernel_rfl) (by (simp only [go_sem, Nat.reduceAdd, Nat.reduceEqDiff, Nat.reduceLT, Nat.reduceLeDiff, bI2, zx.idsL, zx.renL, zx.snapAll, z7.idsL, z7.renL, z7.snapAll]) <;> rfl)) trivial)) (by kernel_rfl)

def pdqc (l : List Int) (q : Int) : List Int :=
  (isortc l)

def sd142 (l : List Int) (q : Int) : St := ⟨134, [(27, .tup []), (26, I ((l.length : Nat) : Int)), (25, I 0), (24, .lsl 5 0 l.length 1 none), (23, B true), (22, I (w64 (((l.length : Nat) : Int) - 0))), (10, I (w64 (((l.length : Nat) : Int) - 0))), (21, I (w64 (((l.length : Nat) : Int) - 0))), (20, I 0), (19, I ((l.length : Nat) : Int)), (0, .lsl 5 0 l.length 1 none), (1, I 0), (2, I ((l.length : Nat) : Int)), (3, I q), (8, B true), (9, B true)], [(5, ⟨(isortc l).map I, 1, false⟩)], 6, 6⟩

theorem I_pdqc (l : List Int) (q : Int) (hl : l.length ≤ 12) : (lim cfg).inl 80 [.lsl 5 0 l.length 1 none, I 0, I ((l.length : Nat) : Int), I q] [(5, ⟨l.map I, 1, false⟩)] 6 = some (.tup [], [(5, ⟨(pdqc l q).map I, 1, false⟩)], 6) := by
  unfold pdqc
  have l1 := (show decide ((w64 (((l.length : Nat) : Int) - 0)) ≤ 12) = true from (decide_eq_true (by first | assumption | omega | (simp only [zc] at * <;> omega))))
  have l2 := (And.intro (show zV [(5, ⟨l.map I, 1, false⟩)] 256 [5] [] = some [5] from (by (simp only [zV, go_sem, Nat.reduceAdd, Nat.reduceEqDiff, Nat.reduceLT, Nat.reduceLeDiff, bI2, zx.idsL, zx.renL, zx.snapAll, z7.idsL, z7.renL, z7.snapAll]) <;> rfl)) (I_isortc l (by first | assumption | omega)))
  exact po_inl [.gloop ⟨134, [(0, .lsl 5 0 l.length 1 none), (1, I 0), (2, I ((l.length : Nat) : Int)), (3, I q), (8, B true), (9, B true)], [(5, ⟨l.map I, 1, false⟩)], 6, 6⟩ .ret (sd142 l q)] (And.intro (show (lim cfg).loop 80 lp80_2 ⟨134, [(0, .lsl 5 0 l.length 1 none), (1, I 0), (2, I ((l.length : Nat) : Int)), (3, I q), (8, B true), (9, B true)], [(5, ⟨l.map I, 1, false⟩)], 6, 6⟩ = some (.ret, (sd142 l q)) from (zQ [.dec true, .inlS [5] (.tup []) [(5, ⟨(isortc l).map I, 1, false⟩)] 6] (And.intro (l2) (And.intro (l1) trivial)) (by kernel_rfl))) (And.intro (gc_of (C := cfg) (f := 80) (a := lp80_2) (ks := [0, 1, 2, 3, 8, 9]) (st := ⟨134, [(9, B true), (8, B true), (0, .lsl 5 0 l.length 1 none), (1, I 0), (2, I ((l.length : Nat) : Int)), (3, I q)], [(5, ⟨l.map I, 1, false⟩)], 6, 6⟩) (st1 := ⟨134, [(0, .lsl 5 0 l.length 1 none), (1, I 0), (2, I ((l.length : Nat) : Int)), (3, I q), (8, B true), (9, B true)], [(5, ⟨l.map I, 1, false⟩)], 6, 6⟩) (by kernel_rfl) (by (simp only [go_sem, Nat.reduceAdd, Nat.reduceEqDiff, Nat.reduceLT, Nat.reduceLeDiff, bI2, zx.idsL, zx.renL, zx.snapAll, z7.idsL, z7.renL, z7.snapAll]) <;> rfl)) trivial)) (by kernel_rfl)

def zn (l : List Int) : List Int :=
  (pdqc l (bl12 ((l.length : Nat) : Int)))

theorem I_sortc (l : List Int) (hl : l.length ≤ 12) : (lim cfg).inl 38 [.lsl 5 0 l.length 1 none] [(5, ⟨l.map I, 1, false⟩)] 6 = some (.tup [], [(5, ⟨(zn l).map I, 1, false⟩)], 6) := by
  unfold zn
  exact po_inl [.pure (I (bl12 ((l.length : Nat) : Int))), .inlS [5] (.tup []) [(5, ⟨(pdqc l (bl12 ((l.length : Nat) : Int))).map I, 1, false⟩)] 6] (And.intro (And.intro (show zV [(5, ⟨l.map I, 1, false⟩)] 256 [5] [] = some [5] from (by (simp only [zV, go_sem, Nat.reduceAdd, Nat.reduceEqDiff, Nat.reduceLT, Nat.reduceLeDiff, bI2, zx.idsL, zx.renL, zx.snapAll, z7.idsL, z7.renL, z7.snapAll]) <;> rfl)) (I_pdqc l (bl12 ((l.length : Nat) : Int)) (by first | assumption | omega))) (And.intro (T_bl (n := ((l.length : Nat) : Int)) (by first | assumption | omega) (by first | assumption | omega)) trivial)) (by kernel_rfl)
end Go.VS

/-
  Orders: a further item; lesser errors. (A text of this claim's own; nothing of it is trusted.)
-/
namespace Go.VS
set_option maxHeartbeats 0
theorem ins4a : ∀ (R : List Int) (x : Int) (B : List Int) (n : Nat), R.length < n → R.length ≤ 1000 →
    ∃ j, isorta_4 n (R.length : Int) (R.reverse ++ x :: B) = .x0 j ((insr x R).reverse ++ B) ∨ isorta_4 n (R.length : Int) (R.reverse ++ x :: B) = .x1 j ((insr x R).reverse ++ B)
  | _, _, _, 0, h, _ => by omega
  | [], x, B, n + 1, _, _ => ⟨0, .inr (by simp [isorta_4, insr])⟩
  | y :: R, x, B, n + 1, h, hb => by
    simp only [List.length_cons] at h hb
    have e0 : decide ((((y :: R).length : Nat) : Int) > 0) = true := decide_eq_true (by simp only [List.length_cons]; omega)
    have e1 : w64 ((((y :: R).length : Nat) : Int) - 1) = (R.length : Int) := by simp only [List.length_cons]; rw [w64_eq (by omega) (by omega)]; omega
    have e2 : ((y :: R).reverse ++ x :: B) = R.reverse ++ y :: x :: B := by simp
    have g1 : (R.reverse ++ y :: x :: B).getD (((y :: R).length : Nat) : Int).toNat default = x := by
      simp only [List.length_cons, Int.toNat_natCast]
      rw [List.getD_eq_getElem?_getD, List.getElem?_append_right (by simp)]
      simp
    have g2 : (R.reverse ++ y :: x :: B).getD (R.length : Int).toNat default = y := by
      simp only [Int.toNat_natCast]
      rw [List.getD_eq_getElem?_getD, List.getElem?_append_right (by simp)]
      simp
    have g3 : ((R.reverse ++ y :: x :: B).set (((y :: R).length : Nat) : Int).toNat y).set (R.length : Int).toNat x = R.reverse ++ x :: y :: B := by
      simp only [List.length_cons, Int.toNat_natCast]
      rw [List.set_append_right _ _ (by simp)]
      simp only [List.length_reverse, Nat.add_sub_cancel_left]
      rw [List.set_append_right _ _ (by simp)]
      simp
    unfold isorta_4
    rw [e0, e1, e2, g1, g2, g3, less_eq]
    simp only [cond_true]
    by_cases hxy : x < y
    · rw [decide_eq_true hxy]
      simp only [cond_true]
      obtain ⟨j, hj⟩ := ins4a R x (y :: B) n (by omega) (by omega)
      refine ⟨j, ?_⟩
      have e3 : (insr x (y :: R)).reverse ++ B = (insr x R).reverse ++ y :: B := by
        rw [insr, if_pos hxy]; simp
      rw [e3]
      exact hj
    · rw [decide_eq_false hxy]
      simp only [cond_false]
      refine ⟨(((y :: R).length : Nat) : Int), .inl ?_⟩
      have e3 : (insr x (y :: R)).reverse ++ B = R.reverse ++ y :: x :: B := by
        rw [insr, if_neg hxy]; simp
      rw [e3]
theorem ins1a : ∀ (B R : List Int) (n : Nat), n = B.length → R.length + B.length ≤ 1000 → ∃ i, isorta_1 n R.length (R.reverse ++ B) = .x0 i (B.foldl (fun S x => insr x S) R).reverse
  | [], R, n, h, _ => by subst h; exact ⟨R.length, by simp [isorta_1]⟩
  | x :: B, R, n, h, hb => by
    subst h
    simp only [List.length_cons] at hb
    simp only [List.length_cons, List.foldl_cons]
    unfold isorta_1
    obtain ⟨i, hi⟩ := ins1a B (insr x R) B.length rfl (by rw [insr_len]; omega)
    rw [insr_len] at hi
    obtain ⟨j, hj⟩ := ins4a R x B (R.length + 1) (by omega) (by omega)
    refine ⟨i, ?_⟩
    rcases hj with hj | hj <;> rw [hj] <;> exact hi
theorem isort_eqa {l : List Int} (h : l.length ≤ 1000) : isorta l = srt l := by
  unfold isorta srt
  cases l with
  | nil => rfl
  | cons x l =>
    simp only [List.length_cons] at h
    obtain ⟨i, hi⟩ := ins1a l [x] l.length rfl (by simp; omega)
    have e : (((((x :: l).length : Nat) : Int)) - 1).toNat = l.length := by simp
    rw [e]
    have e2 : isorta_1 l.length 1 (x :: l) = .x0 i (l.foldl (fun S x => insr x S) [x]).reverse := hi
    rw [e2]
    rfl
theorem sorta_eq {l : List Int} (h : l.length ≤ 1000) : zl l = srt l := isort_eqa h
theorem ins4b : ∀ (R : List Int) (x : Int) (B : List Int) (n : Nat), R.length < n → R.length ≤ 1000 →
    ∃ j, isortb_4 n (R.length : Int) (R.reverse ++ x :: B) = .x0 j ((insr x R).reverse ++ B) ∨ isortb_4 n (R.length : Int) (R.reverse ++ x :: B) = .x1 j ((insr x R).reverse ++ B)
  | _, _, _, 0, h, _ => by omega
  | [], x, B, n + 1, _, _ => ⟨0, .inr (by simp [isortb_4, insr])⟩
  | y :: R, x, B, n + 1, h, hb => by
    simp only [List.length_cons] at h hb
    have e0 : decide ((((y :: R).length : Nat) : Int) > 0) = true := decide_eq_true (by simp only [List.length_cons]; omega)
    have e1 : w64 ((((y :: R).length : Nat) : Int) - 1) = (R.length : Int) := by simp only [List.length_cons]; rw [w64_eq (by omega) (by omega)]; omega
    have e2 : ((y :: R).reverse ++ x :: B) = R.reverse ++ y :: x :: B := by simp
    have g1 : (R.reverse ++ y :: x :: B).getD (((y :: R).length : Nat) : Int).toNat default = x := by
      simp only [List.length_cons, Int.toNat_natCast]
      rw [List.getD_eq_getElem?_getD, List.getElem?_append_right (by simp)]
      simp
    have g2 : (R.reverse ++ y :: x :: B).getD (R.length : Int).toNat default = y := by
      simp only [Int.toNat_natCast]
      rw [List.getD_eq_getElem?_getD, List.getElem?_append_right (by simp)]
      simp
    have g3 : ((R.reverse ++ y :: x :: B).set (((y :: R).length : Nat) : Int).toNat y).set (R.length : Int).toNat x = R.reverse ++ x :: y :: B := by
      simp only [List.length_cons, Int.toNat_natCast]
      rw [List.set_append_right _ _ (by simp)]
      simp only [List.length_reverse, Nat.add_sub_cancel_left]
      rw [List.set_append_right _ _ (by simp)]
      simp
    unfold isortb_4
    rw [e0, e1, e2, g1, g2, g3, less_eq]
    simp only [cond_true]
    by_cases hxy : x < y
    · rw [decide_eq_true hxy]
      simp only [cond_true]
      obtain ⟨j, hj⟩ := ins4b R x (y :: B) n (by omega) (by omega)
      refine ⟨j, ?_⟩
      have e3 : (insr x (y :: R)).reverse ++ B = (insr x R).reverse ++ y :: B := by
        rw [insr, if_pos hxy]; simp
      rw [e3]
      exact hj
    · rw [decide_eq_false hxy]
      simp only [cond_false]
      refine ⟨(((y :: R).length : Nat) : Int), .inl ?_⟩
      have e3 : (insr x (y :: R)).reverse ++ B = R.reverse ++ y :: x :: B := by
        rw [insr, if_neg hxy]; simp
      rw [e3]
theorem ins1b : ∀ (B R : List Int) (n : Nat), n = B.length → R.length + B.length ≤ 1000 → ∃ i, isortb_1 n R.length (R.reverse ++ B) = .x0 i (B.foldl (fun S x => insr x S) R).reverse
  | [], R, n, h, _ => by subst h; exact ⟨R.length, by simp [isortb_1]⟩
  | x :: B, R, n, h, hb => by
    subst h
    simp only [List.length_cons] at hb
    simp only [List.length_cons, List.foldl_cons]
    unfold isortb_1
    obtain ⟨i, hi⟩ := ins1b B (insr x R) B.length rfl (by rw [insr_len]; omega)
    rw [insr_len] at hi
    obtain ⟨j, hj⟩ := ins4b R x B (R.length + 1) (by omega) (by omega)
    refine ⟨i, ?_⟩
    rcases hj with hj | hj <;> rw [hj] <;> exact hi
theorem isort_eqb {l : List Int} (h : l.length ≤ 1000) : isortb l = srt l := by
  unfold isortb srt
  cases l with
  | nil => rfl
  | cons x l =>
    simp only [List.length_cons] at h
    obtain ⟨i, hi⟩ := ins1b l [x] l.length rfl (by simp; omega)
    have e : (((((x :: l).length : Nat) : Int)) - 1).toNat = l.length := by simp
    rw [e]
    have e2 : isortb_1 l.length 1 (x :: l) = .x0 i (l.foldl (fun S x => insr x S) [x]).reverse := hi
    rw [e2]
    rfl
theorem sortb_eq {l : List Int} (h : l.length ≤ 1000) : zm l = srt l := isort_eqb h
theorem ins4c : ∀ (R : List Int) (x : Int) (B : List Int) (n : Nat), R.length < n → R.length ≤ 1000 →
    ∃ j, isortc_4 n (R.length : Int) (R.reverse ++ x :: B) = .x0 j ((insr x R).reverse ++ B) ∨ isortc_4 n (R.length : Int) (R.reverse ++ x :: B) = .x1 j ((insr x R).reverse ++ B)
  | _, _, _, 0, h, _ => by omega
  | [], x, B, n + 1, _, _ => ⟨0, .inr (by simp [isortc_4, insr])⟩
  | y :: R, x, B, n + 1, h, hb => by
    simp only [List.length_cons] at h hb
    have e0 : decide ((((y :: R).length : Nat) : Int) > 0) = true := decide_eq_true (by simp only [List.length_cons]; omega)
    have e1 : w64 ((((y :: R).length : Nat) : Int) - 1) = (R.length : Int) := by simp only [List.length_cons]; rw [w64_eq (by omega) (by omega)]; omega
    have e2 : ((y :: R).reverse ++ x :: B) = R.reverse ++ y :: x :: B := by simp
    have g1 : (R.reverse ++ y :: x :: B).getD (((y :: R).length : Nat) : Int).toNat default = x := by
      simp only [List.length_cons, Int.toNat_natCast]
      rw [List.getD_eq_getElem?_getD, List.getElem?_append_right (by simp)]
      simp
    have g2 : (R.reverse ++ y :: x :: B).getD (R.length : Int).toNat default = y := by
      simp only [Int.toNat_natCast]
      rw [List.getD_eq_getElem?_getD, List.getElem?_append_right (by simp)]
      simp
    have g3 : ((R.reverse ++ y :: x :: B).set (((y :: R).length : Nat) : Int).toNat y).set (R.length : Int).toNat x = R.reverse ++ x :: y :: B := by
      simp only [List.length_cons, Int.toNat_natCast]
      rw [List.set_append_right _ _ (by simp)]
      simp only [List.length_reverse, Nat.add_sub_cancel_left]
      rw [List.set_append_right _ _ (by simp)]
      simp
    unfold isortc_4
    rw [e0, e1, e2, g1, g2, g3, less_eq]
    simp only [cond_true]
    by_cases hxy : x < y
    · rw [decide_eq_true hxy]
      simp only [cond_true]
      obtain ⟨j, hj⟩ := ins4c R x (y :: B) n (by omega) (by omega)
      refine ⟨j, ?_⟩
      have e3 : (insr x (y :: R)).reverse ++ B = (insr x R).reverse ++ y :: B := by
        rw [insr, if_pos hxy]; simp
      rw [e3]
      exact hj
    · rw [decide_eq_false hxy]
      simp only [cond_false]
      refine ⟨(((y :: R).length : Nat) : Int), .inl ?_⟩
      have e3 : (insr x (y :: R)).reverse ++ B = R.reverse ++ y :: x :: B := by
        rw [insr, if_neg hxy]; simp
      rw [e3]
theorem ins1c : ∀ (B R : List Int) (n : Nat), n = B.length → R.length + B.length ≤ 1000 → ∃ i, isortc_1 n R.length (R.reverse ++ B) = .x0 i (B.foldl (fun S x => insr x S) R).reverse
  | [], R, n, h, _ => by subst h; exact ⟨R.length, by simp [isortc_1]⟩
  | x :: B, R, n, h, hb => by
    subst h
    simp only [List.length_cons] at hb
    simp only [List.length_cons, List.foldl_cons]
    unfold isortc_1
    obtain ⟨i, hi⟩ := ins1c B (insr x R) B.length rfl (by rw [insr_len]; omega)
    rw [insr_len] at hi
    obtain ⟨j, hj⟩ := ins4c R x B (R.length + 1) (by omega) (by omega)
    refine ⟨i, ?_⟩
    rcases hj with hj | hj <;> rw [hj] <;> exact hi
theorem isort_eqc {l : List Int} (h : l.length ≤ 1000) : isortc l = srt l := by
  unfold isortc srt
  cases l with
  | nil => rfl
  | cons x l =>
    simp only [List.length_cons] at h
    obtain ⟨i, hi⟩ := ins1c l [x] l.length rfl (by simp; omega)
    have e : (((((x :: l).length : Nat) : Int)) - 1).toNat = l.length := by simp
    rw [e]
    have e2 : isortc_1 l.length 1 (x :: l) = .x0 i (l.foldl (fun S x => insr x S) [x]).reverse := hi
    rw [e2]
    rfl
theorem sortc_eq {l : List Int} (h : l.length ≤ 1000) : zn l = srt l := isort_eqc h

theorem inc_of : ∀ {l : List Int} {p n : Int}, l.Pairwise (· < ·) → (∀ x ∈ l, p < x ∧ 0 ≤ x ∧ x < n) → inc p n l
  | [], _, _, _, _ => trivial
  | x :: l, p, n, h, hm => by
    have h' := List.pairwise_cons.1 h
    have hx := hm x List.mem_cons_self
    refine ⟨hx.1, hx.2.1, hx.2.2, inc_of h'.2 fun y hy => ?_⟩
    have := hm y (List.mem_cons_of_mem _ hy)
    exact ⟨h'.1 y hy, this.2⟩
theorem inc_pw : ∀ {l : List Int} {p n : Int}, inc p n l → l.Pairwise (· < ·)
  | [], _, _, _ => List.Pairwise.nil
  | x :: l, p, n, h => List.pairwise_cons.2 ⟨fun y hy => inc_lt h.2.2.2 y hy, inc_pw h.2.2.2⟩
theorem tot_perm {l l' : List Int} (h : List.Perm l l') : tot l = tot l' := by
  induction h with
  | nil => rfl
  | cons x _ ih => simp only [tot, ih]
  | swap x y l => simp only [tot]; omega
  | trans _ _ ih1 ih2 => rw [ih1, ih2]
structure MoreOK (e : S_Estate) (items : GS Int) (more : Int) : Prop where
  hL : items.l.length ≤ 9223372036854775807
  hv : zk e = true
  hr : r_Right e items = true
  h0 : ¬ more < 0
  h1 : ¬ more ≥ ((e.items.l.length : Nat) : Int)
  hc : slices_Contains items more = false
section
variable {e : S_Estate} {items : GS Int} {more : Int}
theorem MoreOK.inc (h : MoreOK e items more) : inc (-1) (e.items.l.length : Int) items.l := (rright_iff h.hL).1 h.hr
theorem MoreOK.no (h : MoreOK e items more) : more ∉ items.l := by
  have := h.hc
  rw [contains_eq] at this
  exact of_decide_eq_false this
/-- All items, the further one too. -/
def moreL (items : GS Int) (more : Int) : List Int := srt (items.l ++ [more])
theorem MoreOK.inc' (h : MoreOK e items more) : VS.inc (-1) (e.items.l.length : Int) (moreL items more) := by
  have hp := srt_perm (items.l ++ [more])
  have hnd : (items.l ++ [more]).Nodup := by
    rw [List.nodup_append]
    refine ⟨(inc_pw h.inc).imp (fun h => by omega), by simp, fun a ha b hb => ?_⟩
    simp only [List.mem_singleton] at hb
    subst hb
    rintro rfl
    exact h.no ha
  have hnd' : (moreL items more).Nodup := hp.nodup_iff.2 hnd
  refine inc_of ((srt_sorted (items.l ++ [more])).imp₂ (fun a b (h1 : a ≤ b) (h2 : a ≠ b) => by omega) hnd') fun x hx => ?_
  have hx' := hp.mem_iff.1 hx
  rcases List.mem_append.1 hx' with h' | h'
  · have := inc_lt h.inc x h'; have := inc_mem h.inc x h'; omega
  · simp only [List.mem_singleton] at h'
    have := h.h0; have := h.h1
    omega
theorem MoreOK.gain (h : MoreOK e items more) : tot (gs e items.l) ≤ tot (gs e (moreL items more)) := by
  have hV := valid_iff.1 h.hv
  have h0 := h.h0; have h1 := h.h1
  have e1 : tot (gs e (moreL items more)) = tot (gs e (items.l ++ [more])) := tot_perm ((srt_perm (items.l ++ [more])).map _)
  have e2 : gs e (items.l ++ [more]) = gs e items.l ++ [gn (e.items.at more)] := by simp [gs]
  have hg := gn_bd (hV.it _ (at_mem (s := e.items) (i := more) (by omega) (by omega)))
  rw [e1, e2, tot_app]
  simp only [tot]
  omega
theorem more_len (h : MoreOK e items more) : items.l.length + 1 ≤ e.items.l.length := by
  have h1 := inc_len h.inc' (by omega)
  have e1 : (moreL items more).length = items.l.length + 1 := by unfold moreL; rw [(srt_perm _).length_eq]; simp
  have hne : moreL items more ≠ [] := fun hh => by rw [hh] at e1; simp at e1
  have := h1 hne
  omega
theorem more_len' (h : MoreOK e items more) : e.items.l.length ≤ 12 := (valid_iff.1 h.hv).n2
/-- What is asked of both lists. -/
theorem more_w (h : MoreOK e items more) {L : List Int} (hl : L = moreL items more) : z5 e items = (Wg e (tot (gs e items.l)), 0) ∧ z5 e (GS.some L) = (Wg e (tot (gs e (moreL items more))), 0) ∧ Wg e (tot (gs e (moreL items more))) ≤ Wg e (tot (gs e items.l)) ∧ 0 ≤ Wg e (tot (gs e (moreL items more))) := by
  have hV := valid_iff.1 h.hv
  have hr := gs_range hV h.inc
  have hr' := gs_range hV h.inc'
  subst hl
  have hs := inc_short hV h.inc'
  refine ⟨worst_eq hV h.hL h.inc, worst_eq (items := GS.some (moreL items more)) hV (by simp only [GS.some]; omega) h.inc', Wg_mono hV hr.1 h.gain hr'.2, Wg_nonneg hV hr'.1 hr'.2⟩
theorem Opn_mono (hV : V e) {g g' low high : Int} (h0 : 0 ≤ g) (h1 : g ≤ g') (h2 : g' ≤ sHi e.items.l - sLo e.items.l) (ho : Opn e g' low high) : Opn e g low high := by
  have := hV.lo; have := hV.hi; have := hV.w1
  unfold Opn opS at *
  omega
theorem more_d (h : MoreOK e items more) {L : List Int} (hl : L = moreL items more) {low high : Int} (h0 : -1099511627776 ≤ low) (h1 : high ≤ 1099511627776) (hlh : low < high) :
    (z6 e items low high).2 = 0 ∧ (z6 e (GS.some L) low high).2 = 0 ∧ ((z6 e items low high).1 = true → (z6 e (GS.some L) low high).1 = true) := by
  have hV := valid_iff.1 h.hv
  have hr := gs_range hV h.inc
  have hr' := gs_range hV h.inc'
  subst hl
  have hs := inc_short hV h.inc'
  have k1 := openF hV h.hL h.inc h0 h1 hlh
  have k2 := openF (items := GS.some (moreL items more)) hV (by simp only [GS.some]; omega) h.inc' h0 h1 hlh
  by_cases c1 : Opn e (tot (gs e items.l)) low high
  · rw [(k1.1 c1).2]
    by_cases c2 : Opn e (tot (gs e (GS.some (moreL items more)).l)) low high
    · rw [(k2.1 c2).2]; exact ⟨rfl, rfl, fun h => by cases h⟩
    · rw [(k2.2 c2).2]; exact ⟨rfl, rfl, fun h => by cases h⟩
  · have c2 : ¬ Opn e (tot (gs e (GS.some (moreL items more)).l)) low high := fun h2 => c1 (Opn_mono hV hr.1 h.gain hr'.2 h2)
    rw [(k1.2 c1).2, (k2.2 c2).2]
    exact ⟨rfl, rfl, fun _ => rfl⟩
/-! ### as it is asked -/
theorem more_w0 (h : MoreOK e items more) : ((z5 e items).2 != 0) = false := by rw [(more_w h rfl).1]; rfl
theorem more_w1 (h : MoreOK e items more) {L : List Int} (hl : L = moreL items more) : ((z5 e (GS.some L)).2 != 0) = false := by rw [(more_w h hl).2.1]; rfl
theorem more_w2 (h : MoreOK e items more) {L : List Int} (hl : L = moreL items more) : decide ((z5 e (GS.some L)).1 > (z5 e items).1) = false := by
  have k := more_w h hl
  rw [k.1, k.2.1]
  exact decide_eq_false (by have := k.2.2.1; simp only []; omega)
theorem more_w3 (h : MoreOK e items more) {L : List Int} (hl : L = moreL items more) : decide ((z5 e (GS.some L)).1 < 0) = false := by
  have k := more_w h hl
  rw [k.2.1]
  exact decide_eq_false (by have := k.2.2.2; simp only []; omega)
theorem more_d0 (h : MoreOK e items more) {L : List Int} (hl : L = moreL items more) {low high : Int} (hlh : low < high) (h0 : low ≥ -1099511627776) (h1 : high ≤ 1099511627776) : ((z6 e items low high).2 != 0) = false := by
  rw [(more_d h hl h0 h1 hlh).1]; rfl
theorem more_d1 (h : MoreOK e items more) {L : List Int} (hl : L = moreL items more) {low high : Int} (hlh : low < high) (h0 : low ≥ -1099511627776) (h1 : high ≤ 1099511627776) : ((z6 e (GS.some L) low high).2 != 0) = false := by
  rw [(more_d h hl h0 h1 hlh).2.1]; rfl
theorem more_d2 (h : MoreOK e items more) {L : List Int} (hl : L = moreL items more) {low high : Int} (hlh : low < high) (h0 : low ≥ -1099511627776) (h1 : high ≤ 1099511627776) (hd : (z6 e items low high).1 = true) : (z6 e (GS.some L) low high).1 = true := (more_d h hl h0 h1 hlh).2.2 hd
theorem sa_eq (he : items.l.isEmpty = true) : zl [more] = moreL items more := by
  have hl : items.l = [] := by simpa using he
  unfold moreL
  rw [hl, sorta_eq (by simp)]
  rfl
theorem sb_eq (he : items.l.isEmpty = true) : zm [more] = moreL items more := by
  have hl : items.l = [] := by simpa using he
  unfold moreL
  rw [hl, sortb_eq (by simp)]
  rfl
theorem sc_eq (h : MoreOK e items more) : zn (items.l ++ [more]) = moreL items more := by
  have h1 := more_len h
  have h2 := more_len' h
  exact sortc_eq (by simp; omega)
theorem sorta_len (l : List Int) (h : l.length ≤ 12) : (zl l).length = l.length := by rw [sorta_eq (by omega), (srt_perm l).length_eq]
theorem sortb_len (l : List Int) (h : l.length ≤ 12) : (zm l).length = l.length := by rw [sortb_eq (by omega), (srt_perm l).length_eq]
theorem sortc_len (l : List Int) (h : l.length ≤ 12) : (zn l).length = l.length := by rw [sortc_eq (by omega), (srt_perm l).length_eq]
/-! ### lesser errors, a narrower whole -/
/-- An estate that is the same but for one error, and for the whole. -/
structure Less (e p : S_Estate) : Prop where
  len : p.items.l.length = e.items.l.length
  at_ : ∀ i : Nat, ∀ x, e.items.l[i]? = some x → ∃ y, p.items.l[i]? = some y ∧ y.now = x.now ∧ y.error ≤ x.error
  lo : e.whole.lo ≤ p.whole.lo
  hi : p.whole.hi ≤ e.whole.hi
theorem sums_same : ∀ {l l' : List S_Item}, l'.length = l.length → (∀ i : Nat, ∀ x, l[i]? = some x → ∃ y, l'[i]? = some y ∧ y.now = x.now ∧ y.error ≤ x.error) → sLo l' = sLo l ∧ sHi l' = sHi l
  | [], [], _, _ => ⟨rfl, rfl⟩
  | [], _ :: _, h, _ => by simp at h
  | _ :: _, [], h, _ => by simp at h
  | x :: l, y :: l', h, ha => by
    obtain ⟨z, h1, h2, _⟩ := ha 0 x rfl
    simp at h1
    subst h1
    have ih := sums_same (l := l) (l' := l') (by simpa using h) (fun i w hw => ha (i + 1) w (by simpa using hw))
    simp only [sLo, sHi, ih.1, ih.2, h2]
    exact ⟨trivial, trivial⟩
theorem Less.worst {p : S_Estate} (hl : Less e p) (h : MoreOK e items more) (hp : V p) : z5 p items = (Wg p (tot (gs p items.l)), 0) ∧ Wg p (tot (gs p items.l)) ≤ Wg e (tot (gs e items.l)) := by
  have hV := valid_iff.1 h.hv
  have hi := h.inc
  have hi' : VS.inc (-1) (p.items.l.length : Int) items.l := by rw [hl.len]; exact hi
  have hr := gs_range hV hi
  have hr' := gs_range hp hi'
  obtain ⟨s1, s2⟩ := sums_same hl.len hl.at_
  have hg : tot (gs e items.l) ≤ tot (gs p items.l) := by
    have key : ∀ l : List Int, (∀ i ∈ l, 0 ≤ i ∧ i < (e.items.l.length : Int)) → tot (gs e l) ≤ tot (gs p l) := by
      intro l
      induction l with
      | nil => intro _; simp [gs, tot]
      | cons x l ih =>
        intro hm
        have := ih fun i hi => hm i (List.mem_cons_of_mem _ hi)
        have hx := hm x List.mem_cons_self
        have hlt : x.toNat < e.items.l.length := by omega
        obtain ⟨y, q1, q2, q3⟩ := hl.at_ x.toNat _ (List.getElem?_eq_getElem hlt)
        have e1 : e.items.at x = e.items.l[x.toNat] := by rw [GS.at, List.getD_eq_getElem?_getD, List.getElem?_eq_getElem hlt]; rfl
        have e2 : p.items.at x = y := by rw [GS.at, List.getD_eq_getElem?_getD, q1]; rfl
        have : gn (e.items.at x) ≤ gn (p.items.at x) := by rw [e1, e2]; unfold gn; rw [q2]; omega
        simp only [gs, List.map_cons, tot] at *
        omega
    exact key items.l (inc_mem hi)
  refine ⟨worst_eq hp h.hL hi', ?_⟩
  rw [Wg_eq hV hr.1 hr.2, Wg_eq hp hr'.1 hr'.2, s1, s2]
  have := hl.lo; have := hl.hi
  unfold hiS loS
  rw [s1, s2]
  omega
/-- The estate of the law. -/
def lessE (e : S_Estate) (l : List S_Item) (whole : S_Span) : S_Estate := ⟨GS.some l, ⟨zf e.whole.lo whole.lo, ze e.whole.hi whole.hi⟩⟩
def lessI (e : S_Estate) (item less : Int) : List S_Item := e.items.l.set item.toNat ⟨(e.items.l.getD item.toNat default).now, (e.items.l.getD item.toNat default).cost, less⟩
theorem zC (whole : S_Span) : Less e (lessE e e.items.l whole) := ⟨rfl, fun i x hx => ⟨x, hx, rfl, Int.le_refl _⟩, by simp only [lessE, imax_eq]; omega, by simp only [lessE, imin_eq]; omega⟩
theorem less_set {item less : Int} (whole : S_Span) (h0 : item ≥ 0) (h1 : item < ((e.items.l.length : Nat) : Int)) (h2 : less ≤ (e.items.l.getD item.toNat default).error) : Less e (lessE e (lessI e item less) whole) := by
  refine ⟨by simp [lessE, lessI, GS.some], fun i x hx => ?_, by simp only [lessE, imax_eq]; omega, by simp only [lessE, imin_eq]; omega⟩
  by_cases hi : item.toNat = i
  · have hlt : item.toNat < e.items.l.length := by omega
    have hx' : e.items.l.getD item.toNat default = x := by rw [hi, List.getD_eq_getElem?_getD, hx]; rfl
    refine ⟨⟨x.now, x.cost, less⟩, ?_, rfl, by rw [hx'] at h2; exact h2⟩
    show (lessI e item less)[i]? = _
    unfold lessI
    rw [hx', ← hi, List.getElem?_set_self hlt]
  · refine ⟨x, ?_, rfl, Int.le_refl _⟩
    show (lessI e item less)[i]? = _
    unfold lessI
    rw [List.getElem?_set_ne hi]; exact hx
theorem less_w0 {p : S_Estate} (h : MoreOK e items more) (hl : Less e p) (hp : zk p = true) : ((z5 p items).2 == 0) = true := by rw [(hl.worst h (valid_iff.1 hp)).1]; rfl
theorem less_w1 {p : S_Estate} (h : MoreOK e items more) (hl : Less e p) (hp : zk p = true) : decide ((z5 p items).1 ≤ (z5 e items).1) = true := by
  have k := hl.worst h (valid_iff.1 hp)
  rw [k.1, (more_w h rfl).1]
  exact decide_eq_true k.2
end
end Go.VS

