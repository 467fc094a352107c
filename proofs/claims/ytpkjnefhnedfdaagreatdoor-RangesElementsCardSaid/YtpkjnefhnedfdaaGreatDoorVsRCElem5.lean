/- Nothing of a statement is proved in this text alone: it is part 5 of the proof's own tools, an evaluator of the code over deep values, its soundness, and what it makes of this seat's functions. Conditions: none beyond the statement's own. -/
import Derived.Test.YtpkjnefhnedfdaaGreatDoorVsRCElem4
import Derived.Test.YtpkjnefhnedfdaaGreatDoorRows
import Derived.Test.YtpkjnefhnedfdaaGreatDoorTie
import Derived.WalkKit
import Derived.ProofKit
import Derived.Deep.DeepHandedRow
import Derived.Lib.LaidTab
set_option linter.unusedSimpArgs false
set_option linter.unusedVariables false
/-
  Ranges: what the reference's functions come to, plainly. (A text of this claim's own; nothing of it is trusted.)
-/
namespace Go.VS
open Go
set_option maxHeartbeats 0
theorem cn_first {c : S_Span} {r : List S_Span} (h : cn (c :: r)) : ∀ s ∈ c :: r, c.lo ≤ s.lo := fun s hs => by
  rcases List.mem_cons.1 hs with rfl | hs
  · exact Int.le_refl _
  · have := h.1; have := h.2.1 s hs; omega
theorem cn_last : ∀ {l : List S_Span} (hn : l ≠ []), cn l → ∀ s ∈ l, s.hi ≤ (l.getLast hn).hi
  | [s], _, _, t, ht => by rw [List.mem_singleton.1 ht]; exact Int.le_refl _
  | s :: u :: r, hn, h, t, ht => by
    have ih := cn_last (l := u :: r) (by simp) h.2.2
    rw [List.getLast_cons (by simp)]
    rcases List.mem_cons.1 ht with rfl | ht
    · have h1 := h.2.1 u List.mem_cons_self
      have h2 := ih u List.mem_cons_self
      have h3 := cn_mem h.2.2 (s := u) List.mem_cons_self
      omega
    · exact ih t ht
theorem at_last {l : GS S_Span} (hn : l.l ≠ []) (hl : l.l.length ≤ 1073741824) : GS.at l (w64 (((l.l.length : Nat) : Int) - 1)) = l.l.getLast hn := by
  have hp := List.length_pos_iff.2 hn
  rw [w64_eq (by omega) (by omega)]
  have e : ((l.l.length : Nat) : Int) - 1 = ((l.l.length - 1 : Nat) : Int) := by omega
  rw [e]
  unfold GS.at
  rw [Int.toNat_natCast, List.getD_eq_getElem?_getD, List.getElem?_eq_getElem (by omega), List.getLast_eq_getElem]; rfl
/-- What Fit makes of a range's spans. -/
theorem fit_of {J : GS S_Span} {l : List S_Span} (hJ : J.l = can gcmp l) (hl : ∀ s ∈ l, s.lo ≤ s.hi) (hb : J.l.length ≤ 1073741824) : GR l (r_Fit J) := by
  have hr := can_rg gcmp_lo hl
  rw [← hJ] at hr
  unfold GR
  rw [← hJ]
  unfold r_Fit
  by_cases h1 : 64 < J.l.length
  · rw [decide_eq_true (show ((J.l.length : Nat) : Int) > 64 by omega), cond_true]
    exact .inr ⟨.inr h1, rfl⟩
  rw [decide_eq_false (show ¬ ((J.l.length : Nat) : Int) > 64 by omega), cond_false]
  by_cases h2 : J.l = []
  · have hnil : l = [] := by
      cases l with
      | nil => rfl
      | cons s r =>
        exfalso
        have := (hr.2 s.lo).2 ⟨s, List.mem_cons_self, Int.le_refl _, hl s List.mem_cons_self⟩
        rw [h2] at this
        exact In_nil this
    rw [h2, hnil]
    left
    refine ⟨(fun s hs => by cases hs), by simp, h2, rfl⟩
  have hp := List.length_pos_iff.2 h2
  rw [decide_eq_true (show ((J.l.length : Nat) : Int) > 0 by omega), cond_true, at_last h2 hb]
  have h0 : GS.at J 0 = J.l.head h2 := by
    unfold GS.at
    show J.l.getD 0 default = _
    rw [List.getD_eq_getElem?_getD, List.getElem?_eq_getElem hp, List.head_eq_getElem]; rfl
  rw [h0]
  have hfst : ∀ s ∈ J.l, (J.l.head h2).lo ≤ s.lo := by
    generalize J.l = q at *
    cases q with
    | nil => exact absurd rfl h2
    | cons s r => exact cn_first hr.1
  have hlst := cn_last h2 hr.1
  have mf := List.head_mem h2
  have ml := List.getLast_mem h2
  by_cases h3 : (J.l.head h2).lo < -1099511627776
  · rw [decide_eq_true h3, cond_true]
    refine .inr ⟨.inl fun h => ?_, rfl⟩
    obtain ⟨s, hs, k1, k2⟩ := (hr.2 _).1 ⟨_, mf, Int.le_refl _, cn_mem hr.1 mf⟩
    have := (h s hs).1
    unfold Ar at this
    omega
  rw [decide_eq_false h3, cond_false]
  by_cases h4 : (J.l.getLast h2).hi > 1099511627776
  · rw [decide_eq_true h4, cond_true]
    refine .inr ⟨.inl fun h => ?_, rfl⟩
    obtain ⟨s, hs, k1, k2⟩ := (hr.2 _).1 ⟨_, ml, cn_mem hr.1 ml, Int.le_refl _⟩
    have := (h s hs).2
    unfold Ar at this
    omega
  rw [decide_eq_false h4, cond_false]
  refine .inl ⟨fun s hs => ?_, by omega, rfl, rfl⟩
  have hn := hl s hs
  obtain ⟨t, ht, k1, k2⟩ := (hr.2 s.lo).2 ⟨s, hs, Int.le_refl _, hn⟩
  obtain ⟨u, hu, k3, k4⟩ := (hr.2 s.hi).2 ⟨s, hs, hn, Int.le_refl _⟩
  have b1 := hfst t ht
  have b2 := hlst u hu
  unfold Ar
  omega
theorem bd_ne {l : List S_Span} (h : Bd l) : ∀ s ∈ l, s.lo ≤ s.hi := fun s hs => (h s hs).2.1
theorem fit_gr {l : GS S_Span} (h1 : l.l.length ≤ 1073741824) (h2 : Bd l.l) : GR l.l (r_Fit (JJ l)) :=
  fit_of (JJ_l h1 h2) (bd_ne h2) (by have := JJ_len l; omega)
/-- The answer depends on the set alone. -/
theorem GR.det {l l' : List S_Span} {r r' : GS S_Span × Int} (h : GR l r) (h' : GR l' r') (hl : ∀ s ∈ l, s.lo ≤ s.hi) (hl' : ∀ s ∈ l', s.lo ≤ s.hi) (hi : ∀ x, In l x ↔ In l' x) : r.2 = r'.2 ∧ r.1.l = r'.1.l := by
  have hc : can gcmp l = can gcmp l' := ((can_rg gcmp_lo hl).congr hi).unique (can_rg gcmp_lo hl')
  have ar : ∀ {p q : List S_Span}, (∀ s ∈ q, s.lo ≤ s.hi) → (∀ x, In p x ↔ In q x) → ArL p → ArL q := fun {p q} hq hi hp s hs => by
    obtain ⟨t, ht, k1, k2⟩ := (hi s.lo).2 ⟨s, hs, Int.le_refl _, hq s hs⟩
    obtain ⟨u, hu, k3, k4⟩ := (hi s.hi).2 ⟨s, hs, hq s hs, Int.le_refl _⟩
    have b1 := hp t ht
    have b2 := hp u hu
    unfold Ar at *
    omega
  have ha : ArL l ↔ ArL l' := ⟨ar hl' hi, ar hl fun x => (hi x).symm⟩
  unfold GR at h h'
  rw [← hc, ← ha] at h'
  rcases h with ⟨h1, h2, h3, h4⟩ | ⟨h1, h2⟩ <;> rcases h' with ⟨k1, k2, k3, k4⟩ | ⟨k1, k2⟩
  · exact ⟨h4.trans k4.symm, h3.trans k3.symm⟩
  · exfalso
    rcases k1 with k1 | k1
    · exact k1 h1
    · omega
  · exfalso
    rcases h1 with h1 | h1
    · exact h1 k1
    · omega
  · rw [h2, k2]; exact ⟨rfl, rfl⟩
theorem nil_gr : GR [] (r_Fit (JJ GS.nil)) := fit_gr (l := GS.nil) (by simp [GS.nil]) (fun s hs => by cases hs)
/-! ### Of -/
theorem rof3a : ∀ (l : List S_Span) (i : Nat) (v : List S_Span), (ArL (l.flatMap ofF) ∧ r_Of_3a l i v = .x0 (v ++ l.flatMap ofF)) ∨ (¬ ArL (l.flatMap ofF) ∧ ((∃ j x w, r_Of_3a l i v = .x1 j x w) ∨ ∃ j x w, r_Of_3a l i v = .x2 j x w))
  | [], i, v => .inl ⟨(fun s hs => by cases hs), by simp [r_Of_3a]⟩
  | x :: l, i, v => by
    unfold r_Of_3a
    rw [List.flatMap_cons]
    have ih := fun w => rof3a l (i + 1) w
    by_cases h : x.lo > x.hi
    · rw [decide_eq_true h, cond_true]
      have e : ofF x = [] := by unfold ofF someS; rw [if_pos h]
      rw [e]; exact ih v
    · rw [decide_eq_false h, cond_false]
      have e : ofF x = [x] := by unfold ofF someS; rw [if_neg h]
      rw [e]
      by_cases h1 : x.lo < -1099511627776
      · rw [decide_eq_true h1, cond_true]
        exact .inr ⟨fun k => by have := (k x (by simp)).1; unfold Ar at this; omega, .inl ⟨_, _, _, rfl⟩⟩
      rw [decide_eq_false h1, cond_false]
      by_cases h2 : x.hi > 1099511627776
      · rw [decide_eq_true h2, cond_true]
        exact .inr ⟨fun k => by have := (k x (by simp)).2; unfold Ar at this; omega, .inr ⟨_, _, _, rfl⟩⟩
      rw [decide_eq_false h2, cond_false]
      have hx : Ar x.lo ∧ Ar x.hi := by unfold Ar; omega
      rcases ih (v ++ [x]) with ⟨k1, k2⟩ | ⟨k1, k2⟩
      · refine .inl ⟨fun s hs => ?_, by rw [k2, List.append_assoc]⟩
        rcases List.mem_append.1 hs with hs | hs
        · rw [List.mem_singleton.1 hs]; exact hx
        · exact k1 s hs
      · exact .inr ⟨fun k => k1 fun s hs => k s (List.mem_append_right _ hs), k2⟩
theorem rof3 : ∀ (l : List S_Span) (i : Nat), (ArL (l.flatMap ofF) ∧ ((l.flatMap ofF = [] ∧ r_Of_3 l i = .x3) ∨ r_Of_3 l i = .x0 (l.flatMap ofF))) ∨ (¬ ArL (l.flatMap ofF) ∧ ((∃ j x w, r_Of_3 l i = .x1 j x w) ∨ (∃ j x w, r_Of_3 l i = .x2 j x w) ∨ (∃ j x, r_Of_3 l i = .x4 j x) ∨ ∃ j x, r_Of_3 l i = .x5 j x))
  | [], i => .inl ⟨(fun s hs => by cases hs), .inl ⟨rfl, rfl⟩⟩
  | x :: l, i => by
    unfold r_Of_3
    rw [List.flatMap_cons]
    by_cases h : x.lo > x.hi
    · rw [decide_eq_true h, cond_true]
      have e : ofF x = [] := by unfold ofF someS; rw [if_pos h]
      rw [e]; exact rof3 l (i + 1)
    · rw [decide_eq_false h, cond_false]
      have e : ofF x = [x] := by unfold ofF someS; rw [if_neg h]
      rw [e]
      by_cases h1 : x.lo < -1099511627776
      · rw [decide_eq_true h1, cond_true]
        exact .inr ⟨fun k => by have := (k x (by simp)).1; unfold Ar at this; omega, .inr (.inr (.inl ⟨_, _, rfl⟩))⟩
      rw [decide_eq_false h1, cond_false]
      by_cases h2 : x.hi > 1099511627776
      · rw [decide_eq_true h2, cond_true]
        exact .inr ⟨fun k => by have := (k x (by simp)).2; unfold Ar at this; omega, .inr (.inr (.inr ⟨_, _, rfl⟩))⟩
      rw [decide_eq_false h2, cond_false]
      have hx : Ar x.lo ∧ Ar x.hi := by unfold Ar; omega
      rcases rof3a l (i + 1) [x] with ⟨k1, k2⟩ | ⟨k1, k2⟩
      · refine .inl ⟨fun s hs => ?_, .inr k2⟩
        rcases List.mem_append.1 hs with hs | hs
        · rw [List.mem_singleton.1 hs]; exact hx
        · exact k1 s hs
      · exact .inr ⟨fun k => k1 fun s hs => k s (List.mem_append_right _ hs), k2.imp id .inl⟩
theorem ar_bd {l : List S_Span} (h : ArL l) (hl : ∀ s ∈ l, s.lo ≤ s.hi) : Bd l := fun s hs => by
  have h1 := h s hs
  have h2 := hl s hs
  unfold Ar at h1
  omega
theorem rOf_gr {l : GS S_Span} (hl : l.l.length ≤ 1073741824) : GR (l.l.flatMap ofF) (r_Of l) := by
  unfold r_Of
  have hn : ∀ s ∈ l.l.flatMap ofF, s.lo ≤ s.hi := flat_ne fun a _ => some_ne
  have hle := of_len l.l
  rcases rof3 l.l 0 with ⟨ha, ⟨k, e⟩ | e⟩ | ⟨ha, ⟨j, x, w, e⟩ | ⟨j, x, w, e⟩ | ⟨j, x, e⟩ | ⟨j, x, e⟩⟩ <;> rw [e] <;> dsimp only
  · rw [k]; exact nil_gr
  · rw [Bool.cond_self]
    exact fit_gr (l := GS.some (l.l.flatMap ofF)) (by simp only [GS.some_l]; omega) (ar_bd ha hn)
  all_goals exact .inr ⟨.inl ha, rfl⟩
/-! ### Shift -/
/-! ### Within -/
end Go.VS

namespace Go.VS
open Go Go.Proofs
set_option maxHeartbeats 0
set_option linter.unusedSimpArgs false
set_option linter.unusedVariables false
def l_same (a : GS S_Span) (e : Int) (b : GS S_Span) (f : Int) : Bool :=
  bif (e == f) then
    bif (r_Same a b) then
      true
    else
      false
  else
    false

theorem T_l_same (a : GS S_Span) (e : Int) (b : GS S_Span) (f : Int) (hL_a : a.l.length ≤ 9223372036854775807) : (lim cfg).pure 21 [GS.D S_Span.D 2 a, I e, GS.D S_Span.D 2 b, I f] = some (B (l_same a e b f)) := by
  unfold l_same
  cases h1 : (e == f) with
  | true =>
    have g1 := eq_of_beq h1
    cases h2 : (r_Same a b) with
    | true =>
      exact ze [.dec true, .pure (B (r_Same a b)), .dec true] (And.intro h2 (And.intro (T_r_Same a b (by first | assumption | omega | (exact two_bd (by omega) (by omega)) | (exact add_some (by omega)) | (exact add_some' (by omega)) | (exact one_some (by omega)) | (exact one_some' (by omega)) | (exact zA _ (by omega)) | (exact Nat.le_trans (hJl _) (by rw [zd]; omega)) | (exact drop_tl (by assumption)) | (simp only [za] at * <;> omega) | (simp only [srtL, zd, GS.some_l, List.length_set, List.length_append, List.length_cons, List.length_nil] at * <;> first | with_reducible assumption | omega) | (simp only [srtL, zd, GS.some_l, List.length_set, List.length_append, List.length_cons, List.length_nil, za] at * <;> first | with_reducible assumption | omega) | (simp at * <;> omega))) (And.intro h1 trivial))) (by kernel_rfl)
    | false =>
      exact ze [.dec true, .pure (B (r_Same a b)), .dec false] (And.intro h2 (And.intro (T_r_Same a b (by first | assumption | omega | (exact two_bd (by omega) (by omega)) | (exact add_some (by omega)) | (exact add_some' (by omega)) | (exact one_some (by omega)) | (exact one_some' (by omega)) | (exact zA _ (by omega)) | (exact Nat.le_trans (hJl _) (by rw [zd]; omega)) | (exact drop_tl (by assumption)) | (simp only [za] at * <;> omega) | (simp only [srtL, zd, GS.some_l, List.length_set, List.length_append, List.length_cons, List.length_nil] at * <;> first | with_reducible assumption | omega) | (simp only [srtL, zd, GS.some_l, List.length_set, List.length_append, List.length_cons, List.length_nil, za] at * <;> first | with_reducible assumption | omega) | (simp at * <;> omega))) (And.intro h1 trivial))) (by kernel_rfl)
  | false =>
    have g1 := ne_of_beq_false h1
    exact ze [.dec false] (And.intro h1 trivial) (by kernel_rfl)
end Go.VS

/-
  Ranges: Of, Has, Size, Hull, Next and Near are the reference's, plainly. (A text of this claim's own; nothing of it is trusted.)
-/
namespace Go.VS
open Go
set_option maxHeartbeats 0
theorem same_of' {x y : GS S_Span × Int} (h : x.2 = y.2 ∧ x.1.l = y.1.l) : l_same x.1 x.2 y.1 y.2 = true := by
  unfold l_same
  rw [h.1, beq_self_eq_true, same_refl h.2]; rfl
theorem same_Of (l : GS S_Span) (hl : l.l.length ≤ 1073741824) : l_same (ranges_Of l).1 (ranges_Of l).2 (r_Of l).1 (r_Of l).2 = true := by
  have hn : ∀ s ∈ l.l.flatMap ofF, s.lo ≤ s.hi := flat_ne fun a _ => some_ne
  exact same_of' ((Of_gr (by omega)).det (rOf_gr hl) hn hn fun _ => Iff.rfl)
theorem len_Of (l : GS S_Span) (hl : l.l.length ≤ 1073741824) : (ranges_Of l).1.l.length ≤ 9223372036854775807 := Nat.le_trans (gr_len (Of_gr (by omega))) (by decide)
theorem chk_ne (r : GS S_Span) : ((zg r) != (r_Check r)) = false := by rw [same_check]; exact bne_self_eq_false _
section
variable (r : GS S_Span) (n : Int)
theorem chk_no (h : zF r = false) : zg r = 20 := by rw [check_valid, h]; rfl
theorem chk_ok (h : zF r = true) : zg r = 0 := check_iff.2 (valid_iff.1 h)
theorem has_lp : ∀ (l : List S_Span) (i : Nat), (idxHas_2 n l i = .x0 ∧ r_Has_4 n l i = .x0) ∨ ((∃ j x, idxHas_2 n l i = .x1 j x) ∧ ∃ k y, r_Has_4 n l i = .x1 k y)
  | [], i => .inl ⟨rfl, rfl⟩
  | x :: l, i => by
    unfold idxHas_2 r_Has_4 ranges_Has_1 ranges_in
    by_cases h1 : x.lo ≤ n
    · rw [decide_eq_true (show n ≥ x.lo from h1)]
      by_cases h2 : n ≤ x.hi
      · rw [decide_eq_true h2]; exact .inr ⟨⟨_, _, rfl⟩, _, _, rfl⟩
      · rw [decide_eq_false h2]; exact has_lp l (i + 1)
    · rw [decide_eq_false (show ¬ n ≥ x.lo from h1)]; exact has_lp l (i + 1)
theorem has_e : r_Has r n = ranges_Has r n := by
  unfold r_Has ranges_Has
  cases h : zF r with
  | false => rw [chk_no r h]; rfl
  | true =>
    rw [chk_ok r h]
    unfold conHas idxHas
    rcases has_lp n r.l 0 with ⟨h1, h2⟩ | ⟨⟨j, x, h1⟩, k, y, h2⟩ <;> rw [h1, h2]
    · rfl
    · simp only [bne_self_eq_false, cond_false, cond_true]
      rw [decide_eq_true (show ((j : Nat) : Int) ≥ 0 by omega)]; rfl
theorem size_lp : ∀ (l : List S_Span) (v : Int), ∃ w, ranges_Size_6 l v = .x0 w ∧ r_Size_5 l v = .x0 w
  | [], v => ⟨v, rfl, rfl⟩
  | x :: l, v => by unfold ranges_Size_6 r_Size_5; exact size_lp l _
theorem size_e : r_Size r = ranges_Size r := by
  unfold r_Size ranges_Size
  cases h : zF r with
  | false => rw [chk_no r h]; rfl
  | true =>
    rw [chk_ok r h]
    obtain ⟨w, h1, h2⟩ := size_lp r.l 0
    rw [h1, h2]; rfl
theorem hull_e : r_Hull r = zG r := by
  unfold r_Hull zG
  cases h : zF r with
  | false => rw [chk_no r h]; rfl
  | true => rw [chk_ok r h]; rfl
theorem next_lp (hn : -9223372036854775808 ≤ n) : ∀ (l : List S_Span) (i : Nat), bd l → (ranges_Next_5 n l i = .x0 ∧ r_Next_4 n l i = .x0) ∨ ∃ j k x, ((ranges_Next_5 n l i = .x1 j x ∧ zC x.lo (w64 (n + 1)) = x.lo) ∨ (ranges_Next_5 n l i = .x2 j x ∧ zC x.lo (w64 (n + 1)) = w64 (n + 1))) ∧ r_Next_4 n l i = .x1 k x
  | [], i, _ => .inl ⟨rfl, rfl⟩
  | x :: l, i, hb => by
    have hx := hb x List.mem_cons_self
    unfold ranges_Next_5 r_Next_4
    by_cases h1 : n < x.hi
    · rw [decide_eq_true h1]
      simp only [cond_true]
      right
      have hw : w64 (n + 1) = n + 1 := w64_eq (by omega) (by omega)
      by_cases h2 : n < x.lo
      · rw [decide_eq_true h2]
        exact ⟨i, i, x, .inl ⟨rfl, by rw [imax_eq, hw]; omega⟩, rfl⟩
      · rw [decide_eq_false h2]
        exact ⟨i, i, x, .inr ⟨rfl, by rw [imax_eq, hw]; omega⟩, rfl⟩
    · rw [decide_eq_false h1]
      exact next_lp hn l (i + 1) fun s hs => hb s (List.mem_cons_of_mem _ hs)
theorem next_e (hn : -9223372036854775808 ≤ n) : r_Next r n = zz r n := by
  unfold r_Next zz
  cases h : zF r with
  | false => rw [chk_no r h]; rfl
  | true =>
    rw [chk_ok r h]
    simp only [bne_self_eq_false, cond_false, cond_true]
    rcases next_lp n hn r.l 0 (valid_iff.1 h).2.1 with ⟨h1, h2⟩ | ⟨j, k, x, ⟨h1, e⟩ | ⟨h1, e⟩, h2⟩ <;> rw [h1, h2] <;> dsimp only
    · rw [e]
    · rw [e]
theorem near_lp (q : Int) : ∀ (l : List S_Span) (i : Nat) (v : Int), r.l.drop i = l → ∃ w j, ranges_Near_9 q l v = .x0 w ∧ r_Near_8 r q l.length i v = .x0 j w
  | [], i, v, _ => ⟨v, i, rfl, rfl⟩
  | x :: l, i, v, h => by
    obtain ⟨_, h2⟩ := drop_lt h
    have ha : GS.at r ((i : Nat) : Int) = x := at_drop h
    have ih := fun v => near_lp q l (i + 1) v h2
    unfold ranges_Near_9
    rw [List.length_cons]
    unfold r_Near_8
    rw [ha]
    have c : ∀ y : Int, zC (w64 (q - y)) (w64 (y - q)) = zC (w64 (y - q)) (w64 (q - y)) := fun y => by rw [imax_eq, imax_eq, Int.max_comm]
    rw [c, c]
    generalize decide (zC (w64 (imin (zC q x.lo) x.hi - q)) (w64 (q - imin (zC q x.lo) x.hi)) < zC (w64 (v - q)) (w64 (q - v))) = d
    cases d with
    | true => exact ih _
    | false => exact ih _
theorem near_e : r_Near r n = ranges_Near r n := by
  unfold r_Near ranges_Near
  cases h : zF r with
  | false => rw [chk_no r h]; rfl
  | true =>
    rw [chk_ok r h]
    simp only [bne_self_eq_false, cond_false, cond_true]
    cases e : r.l with
    | nil => rfl
    | cons x l =>
      have hok := valid_iff.1 h
      rw [e] at hok
      have hx := hok.2.1 x List.mem_cons_self
      have hn := hok.1.1
      have h0 : GS.at r 0 = x := at_drop (i := 0) (l := l) (by rw [List.drop_zero, e])
      have hne : ((((x :: l).length : Nat) : Int) == 0) = false := beq_eq_false_iff_ne.2 (by simp only [List.length_cons]; omega)
      have hf : ((((x :: l).length : Nat) : Int) - 1).toNat = l.length := by simp only [List.length_cons]; omega
      rw [hne, h0, hf]
      simp only [cond_false]
      have hq : -2199023255552 ≤ imin (zC n (-2199023255552)) 2199023255552 ∧ imin (zC n (-2199023255552)) 2199023255552 ≤ 2199023255552 := by rw [imin_eq, imax_eq]; omega
      generalize imin (zC n (-2199023255552)) 2199023255552 = q at *
      have step : ranges_Near_9 q (x :: l) x.lo = ranges_Near_9 q l (imin (zC q x.lo) x.hi) := by
        rw [ranges_Near_9]
        simp only [imin_eq, imax_eq]
        rw [w64_eq (n := min (max q x.lo) x.hi - q) (by omega) (by omega), w64_eq (n := q - min (max q x.lo) x.hi) (by omega) (by omega), w64_eq (n := x.lo - q) (by omega) (by omega), w64_eq (n := q - x.lo) (by omega) (by omega)]
        by_cases hc : max (min (max q x.lo) x.hi - q) (q - min (max q x.lo) x.hi) < max (x.lo - q) (q - x.lo)
        · rw [decide_eq_true hc]; rfl
        · rw [decide_eq_false hc]
          have : min (max q x.lo) x.hi = x.lo := by omega
          rw [this]; rfl
      obtain ⟨w, j, h1, h2⟩ := near_lp r q l 1 (imin (zC q x.lo) x.hi) (by rw [e]; rfl)
      rw [step, h1, h2]
end
end Go.VS

namespace Go.VS
open Go Go.Proofs
set_option maxHeartbeats 0
set_option linter.unusedSimpArgs false
set_option linter.unusedVariables false
def l_RangesElements (l : GS S_Span) (r : GS S_Span) (n : Int) : Bool :=
  bif decide (((l.l.length : Nat) : Int) > 2000) then
    true
  else
    bif decide (((r.l.length : Nat) : Int) > 2000) then
      true
    else
      bif ((ranges_Has r n).1) then
        bif ((zz r n).2.1) then
          true
        else
          true
      else
        bif ((zz r n).2.1) then
          true
        else
          true

def l_RangesElements_o1 (l : GS S_Span) (r : GS S_Span) (n : Int) : List Ora := [.pure (B true), .dec true, .rw 34 (I ((l.l.length : Nat) : Int)), .dec false, .rw 38 (I ((r.l.length : Nat) : Int)), .dec false, .pure (.tup [.sl (((ranges_Of l).1).nl) ((((ranges_Of l).1).l).map S_Span.D) (zsl (((ranges_Of l).1).nl) 2) none, I ((ranges_Of l).2)]), .pure (.tup [.sl (((r_Of l).1).nl) ((((r_Of l).1).l).map S_Span.D) (zsl (((r_Of l).1).nl) 2) none, I ((r_Of l).2)]), .pure (B (l_same ((ranges_Of l).1) ((ranges_Of l).2) ((r_Of l).1) ((r_Of l).2))), .dec true, .pure (I (zg r)), .pure (I (r_Check r)), .dec false, .pure (.tup [B ((ranges_Has r n).1), I ((ranges_Has r n).2)])]

def l_RangesElements_o2 (r : GS S_Span) (n : Int) : List Ora := [.dec true, .pure (.tup [B ((r_Has r n).1), I ((r_Has r n).2)]), .dec true, .pure (.tup [I ((ranges_Size r).1), I ((ranges_Size r).2)]), .pure (.tup [I ((r_Size r).1), I ((r_Size r).2)]), .pure (.tup [.agg [I (((zG r).1).lo), I (((zG r).1).hi)], I ((zG r).2)]), .pure (.tup [.agg [I (((r_Hull r).1).lo), I (((r_Hull r).1).hi)], I ((r_Hull r).2)]), .pure (.tup [I ((zz r n).1), B ((zz r n).2.1), I ((zz r n).2.2)])]

def l_RangesElements_o3 (r : GS S_Span) (n : Int) : List Ora := [.dec false, .pure (.tup [B ((r_Has r n).1), I ((r_Has r n).2)]), .dec false, .pure (.tup [I ((ranges_Size r).1), I ((ranges_Size r).2)]), .pure (.tup [I ((r_Size r).1), I ((r_Size r).2)]), .pure (.tup [.agg [I (((zG r).1).lo), I (((zG r).1).hi)], I ((zG r).2)]), .pure (.tup [.agg [I (((r_Hull r).1).lo), I (((r_Hull r).1).hi)], I ((r_Hull r).2)]), .pure (.tup [I ((zz r n).1), B ((zz r n).2.1), I ((zz r n).2.2)])]

theorem T_l_RangesElements (l : GS S_Span) (r : GS S_Span) (n : Int) (hLl : l.l.length ≤ 9223372036854775807) (hLr : r.l.length ≤ 9223372036854775807) (hn : -9223372036854775808 ≤ n) : (lim cfg).pure 12 [GS.D S_Span.D 2 l, GS.D S_Span.D 2 r, I n] = some (B (l_RangesElements l r n)) := by
  unfold l_RangesElements
  cases h1 : decide (((l.l.length : Nat) : Int) > 2000) with
  | true =>
    have g1 := of_decide_eq_true h1
    exact ze [.pure (B true), .dec true, .rw 34 (I ((l.l.length : Nat) : Int)), .dec true] (And.intro h1 (And.intro (zb S_Span.D l) (And.intro (Eq.refl true) (And.intro sane_ok trivial)))) (by kernel_rfl)
  | false =>
    have g1 := of_decide_eq_false h1
    cases h2 : decide (((r.l.length : Nat) : Int) > 2000) with
    | true =>
      have g2 := of_decide_eq_true h2
      exact ze [.pure (B true), .dec true, .rw 34 (I ((l.l.length : Nat) : Int)), .dec false, .rw 38 (I ((r.l.length : Nat) : Int)), .dec true] (And.intro h2 (And.intro (zb S_Span.D r) (And.intro h1 (And.intro (zb S_Span.D l) (And.intro (Eq.refl true) (And.intro sane_ok trivial)))))) (by kernel_rfl)
    | false =>
      have g2 := of_decide_eq_false h2
      have p1 := (T_l_same ((ranges_Of l).1) ((ranges_Of l).2) ((r_Of l).1) ((r_Of l).2) (len_Of l (by omega)))
      have p2 := (show (l_same ((ranges_Of l).1) ((ranges_Of l).2) ((r_Of l).1) ((r_Of l).2)) = true from (same_Of l (by omega)))
      have p3 := (show ((zg r) != (r_Check r)) = false from (chk_ne r))
      cases h3 : ((ranges_Has r n).1) with
      | true =>
        have p4 := (show ((r_Has r n).1) = true from ((congrArg (fun z => z.1) (has_e r n)).trans h3))
        cases h4 : ((zz r n).2.1) with
        | true =>
          exact ze ((l_RangesElements_o1 l r n) ++ ((l_RangesElements_o2 r n) ++ [.dec true, .pure (.tup [I ((r_Next r n).1), B ((r_Next r n).2.1), I ((r_Next r n).2.2)]), .dec true, .pure (.tup [I ((ranges_Near r n).1), I ((ranges_Near r n).2)]), .pure (.tup [I ((r_Near r n).1), I ((r_Near r n).2)]), .dec true, .dec true, .dec true, .dec true, .dec true, .dec true, .dec true, .dec true, .dec true, .dec true, .dec true])) (And.intro (show (((ranges_Near r n).2) == ((r_Near r n).2)) = true from (by rw [near_e r n]; simp)) (And.intro (show (((ranges_Near r n).1) == ((r_Near r n).1)) = true from (by rw [near_e r n]; simp)) (And.intro (show (((zz r n).2.2) == ((r_Next r n).2.2)) = true from (by rw [next_e r n hn]; simp)) (And.intro (Eq.refl true) (And.intro (show (((zz r n).1) == ((r_Next r n).1)) = true from (by rw [next_e r n hn]; simp)) (And.intro (show (((zG r).2) == ((r_Hull r).2)) = true from (by rw [hull_e r]; simp)) (And.intro (show (((((zG r).1).lo) == (((r_Hull r).1).lo)) && (((((zG r).1).hi) == (((r_Hull r).1).hi)) && true)) = true from (by rw [hull_e r]; simp)) (And.intro (show (((ranges_Size r).2) == ((r_Size r).2)) = true from (by rw [size_e r]; simp)) (And.intro (show (((ranges_Size r).1) == ((r_Size r).1)) = true from (by rw [size_e r]; simp)) (And.intro (show (((ranges_Has r n).2) == ((r_Has r n).2)) = true from (by rw [has_e r n]; simp)) (And.intro (Eq.refl true) (And.intro (T_r_Near r n (by omega)) (And.intro (T_ranges_Near r n (by omega)) (And.intro (show ((r_Next r n).2.1) = true from ((congrArg (fun z => z.2.1) (next_e r n hn)).trans h4)) (And.intro (T_r_Next r n (by omega)) (And.intro h4 (And.intro (T_ranges_Next r n (by omega)) (And.intro (T_r_Hull r (by omega)) (And.intro (T_ranges_Hull r (by omega)) (And.intro (T_r_Size r (by omega)) (And.intro (T_ranges_Size r (by omega)) (And.intro p4 (And.intro (T_r_Has r n (by omega)) (And.intro h3 (And.intro (T_ranges_Has r n (by omega)) (And.intro p3 (And.intro (T_r_Check r (by omega)) (And.intro (zw r (by omega)) (And.intro p2 (And.intro p1 (And.intro (T_r_Of l (by omega)) (And.intro (T_ranges_Of l (by omega)) (And.intro h2 (And.intro (zb S_Span.D r) (And.intro h1 (And.intro (zb S_Span.D l) (And.intro (Eq.refl true) (And.intro sane_ok trivial)))))))))))))))))))))))))))))))))))))) (by kernel_rfl)
        | false =>
          exact ze ((l_RangesElements_o1 l r n) ++ ((l_RangesElements_o2 r n) ++ [.dec false, .pure (.tup [I ((r_Next r n).1), B ((r_Next r n).2.1), I ((r_Next r n).2.2)]), .dec false, .pure (.tup [I ((ranges_Near r n).1), I ((ranges_Near r n).2)]), .pure (.tup [I ((r_Near r n).1), I ((r_Near r n).2)]), .dec true, .dec true, .dec true, .dec true, .dec true, .dec true, .dec true, .dec true, .dec true, .dec true, .dec true])) (And.intro (show (((ranges_Near r n).2) == ((r_Near r n).2)) = true from (by rw [near_e r n]; simp)) (And.intro (show (((ranges_Near r n).1) == ((r_Near r n).1)) = true from (by rw [near_e r n]; simp)) (And.intro (show (((zz r n).2.2) == ((r_Next r n).2.2)) = true from (by rw [next_e r n hn]; simp)) (And.intro (Eq.refl true) (And.intro (show (((zz r n).1) == ((r_Next r n).1)) = true from (by rw [next_e r n hn]; simp)) (And.intro (show (((zG r).2) == ((r_Hull r).2)) = true from (by rw [hull_e r]; simp)) (And.intro (show (((((zG r).1).lo) == (((r_Hull r).1).lo)) && (((((zG r).1).hi) == (((r_Hull r).1).hi)) && true)) = true from (by rw [hull_e r]; simp)) (And.intro (show (((ranges_Size r).2) == ((r_Size r).2)) = true from (by rw [size_e r]; simp)) (And.intro (show (((ranges_Size r).1) == ((r_Size r).1)) = true from (by rw [size_e r]; simp)) (And.intro (show (((ranges_Has r n).2) == ((r_Has r n).2)) = true from (by rw [has_e r n]; simp)) (And.intro (Eq.refl true) (And.intro (T_r_Near r n (by omega)) (And.intro (T_ranges_Near r n (by omega)) (And.intro (show ((r_Next r n).2.1) = false from ((congrArg (fun z => z.2.1) (next_e r n hn)).trans h4)) (And.intro (T_r_Next r n (by omega)) (And.intro h4 (And.intro (T_ranges_Next r n (by omega)) (And.intro (T_r_Hull r (by omega)) (And.intro (T_ranges_Hull r (by omega)) (And.intro (T_r_Size r (by omega)) (And.intro (T_ranges_Size r (by omega)) (And.intro p4 (And.intro (T_r_Has r n (by omega)) (And.intro h3 (And.intro (T_ranges_Has r n (by omega)) (And.intro p3 (And.intro (T_r_Check r (by omega)) (And.intro (zw r (by omega)) (And.intro p2 (And.intro p1 (And.intro (T_r_Of l (by omega)) (And.intro (T_ranges_Of l (by omega)) (And.intro h2 (And.intro (zb S_Span.D r) (And.intro h1 (And.intro (zb S_Span.D l) (And.intro (Eq.refl true) (And.intro sane_ok trivial)))))))))))))))))))))))))))))))))))))) (by kernel_rfl)
      | false =>
        have p5 := (show ((r_Has r n).1) = false from ((congrArg (fun z => z.1) (has_e r n)).trans h3))
        cases h5 : ((zz r n).2.1) with
        | true =>
          exact ze ((l_RangesElements_o1 l r n) ++ ((l_RangesElements_o3 r n) ++ [.dec true, .pure (.tup [I ((r_Next r n).1), B ((r_Next r n).2.1), I ((r_Next r n).2.2)]), .dec true, .pure (.tup [I ((ranges_Near r n).1), I ((ranges_Near r n).2)]), .pure (.tup [I ((r_Near r n).1), I ((r_Near r n).2)]), .dec true, .dec true, .dec true, .dec true, .dec true, .dec true, .dec true, .dec true, .dec true, .dec true, .dec true])) (And.intro (show (((ranges_Near r n).2) == ((r_Near r n).2)) = true from (by rw [near_e r n]; simp)) (And.intro (show (((ranges_Near r n).1) == ((r_Near r n).1)) = true from (by rw [near_e r n]; simp)) (And.intro (show (((zz r n).2.2) == ((r_Next r n).2.2)) = true from (by rw [next_e r n hn]; simp)) (And.intro (Eq.refl true) (And.intro (show (((zz r n).1) == ((r_Next r n).1)) = true from (by rw [next_e r n hn]; simp)) (And.intro (show (((zG r).2) == ((r_Hull r).2)) = true from (by rw [hull_e r]; simp)) (And.intro (show (((((zG r).1).lo) == (((r_Hull r).1).lo)) && (((((zG r).1).hi) == (((r_Hull r).1).hi)) && true)) = true from (by rw [hull_e r]; simp)) (And.intro (show (((ranges_Size r).2) == ((r_Size r).2)) = true from (by rw [size_e r]; simp)) (And.intro (show (((ranges_Size r).1) == ((r_Size r).1)) = true from (by rw [size_e r]; simp)) (And.intro (show (((ranges_Has r n).2) == ((r_Has r n).2)) = true from (by rw [has_e r n]; simp)) (And.intro (Eq.refl true) (And.intro (T_r_Near r n (by omega)) (And.intro (T_ranges_Near r n (by omega)) (And.intro (show ((r_Next r n).2.1) = true from ((congrArg (fun z => z.2.1) (next_e r n hn)).trans h5)) (And.intro (T_r_Next r n (by omega)) (And.intro h5 (And.intro (T_ranges_Next r n (by omega)) (And.intro (T_r_Hull r (by omega)) (And.intro (T_ranges_Hull r (by omega)) (And.intro (T_r_Size r (by omega)) (And.intro (T_ranges_Size r (by omega)) (And.intro p5 (And.intro (T_r_Has r n (by omega)) (And.intro h3 (And.intro (T_ranges_Has r n (by omega)) (And.intro p3 (And.intro (T_r_Check r (by omega)) (And.intro (zw r (by omega)) (And.intro p2 (And.intro p1 (And.intro (T_r_Of l (by omega)) (And.intro (T_ranges_Of l (by omega)) (And.intro h2 (And.intro (zb S_Span.D r) (And.intro h1 (And.intro (zb S_Span.D l) (And.intro (Eq.refl true) (And.intro sane_ok trivial)))))))))))))))))))))))))))))))))))))) (by kernel_rfl)
        | false =>
          exact ze ((l_RangesElements_o1 l r n) ++ ((l_RangesElements_o3 r n) ++ [.dec false, .pure (.tup [I ((r_Next r n).1), B ((r_Next r n).2.1), I ((r_Next r n).2.2)]), .dec false, .pure (.tup [I ((ranges_Near r n).1), I ((ranges_Near r n).2)]), .pure (.tup [I ((r_Near r n).1), I ((r_Near r n).2)]), .dec true, .dec true, .dec true, .dec true, .dec true, .dec true, .dec true, .dec true, .dec true, .dec true, .dec true])) (And.intro (show (((ranges_Near r n).2) == ((r_Near r n).2)) = true from (by rw [near_e r n]; simp)) (And.intro (show (((ranges_Near r n).1) == ((r_Near r n).1)) = true from (by rw [near_e r n]; simp)) (And.intro (show (((zz r n).2.2) == ((r_Next r n).2.2)) = true from (by rw [next_e r n hn]; simp)) (And.intro (Eq.refl true) (And.intro (show (((zz r n).1) == ((r_Next r n).1)) = true from (by rw [next_e r n hn]; simp)) (And.intro (show (((zG r).2) == ((r_Hull r).2)) = true from (by rw [hull_e r]; simp)) (And.intro (show (((((zG r).1).lo) == (((r_Hull r).1).lo)) && (((((zG r).1).hi) == (((r_Hull r).1).hi)) && true)) = true from (by rw [hull_e r]; simp)) (And.intro (show (((ranges_Size r).2) == ((r_Size r).2)) = true from (by rw [size_e r]; simp)) (And.intro (show (((ranges_Size r).1) == ((r_Size r).1)) = true from (by rw [size_e r]; simp)) (And.intro (show (((ranges_Has r n).2) == ((r_Has r n).2)) = true from (by rw [has_e r n]; simp)) (And.intro (Eq.refl true) (And.intro (T_r_Near r n (by omega)) (And.intro (T_ranges_Near r n (by omega)) (And.intro (show ((r_Next r n).2.1) = false from ((congrArg (fun z => z.2.1) (next_e r n hn)).trans h5)) (And.intro (T_r_Next r n (by omega)) (And.intro h5 (And.intro (T_ranges_Next r n (by omega)) (And.intro (T_r_Hull r (by omega)) (And.intro (T_ranges_Hull r (by omega)) (And.intro (T_r_Size r (by omega)) (And.intro (T_ranges_Size r (by omega)) (And.intro p5 (And.intro (T_r_Has r n (by omega)) (And.intro h3 (And.intro (T_ranges_Has r n (by omega)) (And.intro p3 (And.intro (T_r_Check r (by omega)) (And.intro (zw r (by omega)) (And.intro p2 (And.intro p1 (And.intro (T_r_Of l (by omega)) (And.intro (T_ranges_Of l (by omega)) (And.intro h2 (And.intro (zb S_Span.D r) (And.intro h1 (And.intro (zb S_Span.D l) (And.intro (Eq.refl true) (And.intro sane_ok trivial)))))))))))))))))))))))))))))))))))))) (by kernel_rfl)
end Go.VS

/-
  The seat's program: its tables are right; what its arguments stand for. (Printed by go/oq.py, a program of this claim's own; nothing of it is trusted.)
-/
namespace Go.VS
open Go Go.Proofs Go.RowKit Go.ChangeShapes Go.WideShapes
set_option maxRecDepth 100000
theorem laid_out : laidOutB Tryz.prog = true := by kernel_rfl
theorem maps_rowed : mapsRowed Tryz.prog = true := by kernel_rfl
theorem sl_full : ∀ t e, t < Tryz.prog.types.size → Tryz.prog.underlying t = some (.slice e) → 0 < Tryz.prog.cellsOf e := slices_full_of Tryz.prog (by kernel_rfl)
theorem i64_min : IntKind.i64.min = -9223372036854775808 := by rfl
theorem i64_max : IntKind.i64.max = 9223372036854775807 := by rfl
def R64 (n : Int) : Prop := -9223372036854775808 ≤ n ∧ n ≤ 9223372036854775807
section
variable {H : Type} {enc : TypeId × Value → H} {w : World} {base base' : Nat} {sp : Nat → Bool} {held : Bool} {t : TypeId} {v : Value} {d : DataW H} {p : List MemPlace} {r : Reach}
theorem arg_rep (h : DataW.Trod enc Tryz.prog w base sp held t v d p) (hv : Value.okWide Tryz.prog w r base' t v) (ht : topT cfg 8 t = true) (hr : rowedT cfg 8 t = true) :
    ∃ ds, zn (memOf w) noLoc ds v.cells.toList ∧ Sh cfg 8 t ds := by
  obtain ⟨n, hn⟩ := h
  exact trod_rep (C := cfg) (fun t ty h => tyTab_ok.find h) 8 n t _ _ hn ht hr (.inl (plain_arg hv))
theorem repL_one {M : Mem} {m : Loc} {d : D} {cs : List Value} (h : zn M m [d] cs) : ∃ v, cs = [v] ∧ Rep M m d v := by
  simp only [zn] at h
  obtain ⟨v, r, h1, h2, rfl⟩ := h
  exact ⟨v, h1, h2⟩
theorem one_cell {x u : Value} (h : x.cells.toList = [u]) (hp : ∀ cs, x ≠ .agg cs) : x = u := by
  cases x <;> simp [Value.cells] at h <;> first | exact h | exact absurd rfl (hp _)
theorem ok_notAgg (hv : Value.okWide Tryz.prog w r base' t v) (hs : ∀ fs, Tryz.prog.underlying t ≠ some (.struct fs)) (ha : ∀ n e, Tryz.prog.underlying t ≠ some (.array n e)) : ∀ cs, v ≠ .agg cs := by
  rintro cs rfl
  unfold Value.okWide at hv
  split at hv
  · rename_i h; exact hs _ h
  · rename_i h; exact ha _ _ h
  · unfold Cell.okWide at hv
    split at hv <;> try (rename_i h1 h2; cases h2; done)
    unfold Cell.ok at hv
    split at hv <;> first | (rename_i h1 h2; cases h2; done) | cases hv
end
theorem sh3 {f : Nat} {ds : List D} (h : Sh cfg (f + 1) 3 ds) : ∃ x : Int, ds = [I x] ∧ R64 x := by
  rw [Sh, cfg_ty, cty3] at h
  simp only [ty3] at h
  obtain ⟨n, h1, h2, h3⟩ := h
  rw [i64_min] at h2
  rw [i64_max] at h3
  exact ⟨n, h1, h2, h3⟩
theorem sh25 {f : Nat} {ds : List D} (h : Sh cfg (f + 2) 25 ds) : ∃ x : S_Span, ds = [I x.lo, I x.hi] ∧ True := by
  rw [Sh, cfg_ty, cty25] at h
  simp only [ty25] at h
  obtain ⟨hl, hf⟩ := h
  obtain ⟨t0, q0, z0⟩ := hf (3, 0) (by simp)
  obtain rfl : t0 = ty3 := (Option.some.inj (cty3.symm.trans q0)).symm
  obtain ⟨x0, e0, r0⟩ := sh3 (f := f + 0) z0
  obtain ⟨t1, q1, z1⟩ := hf (3, 1) (by simp)
  obtain rfl : t1 = ty3 := (Option.some.inj (cty3.symm.trans q1)).symm
  obtain ⟨x1, e1, r1⟩ := sh3 (f := f + 0) z1
  rcases ds with _ | ⟨c0, _ | ⟨c1, _ | ⟨y, r⟩⟩⟩
  all_goals simp at hl
  simp [ty3] at e0
  simp [ty3] at e1
  exact ⟨⟨x0, x1⟩, by simp [*], trivial⟩
theorem sh23 {f : Nat} {ds : List D} (h : Sh cfg (f + 3) 23 ds) : ∃ x : GS S_Span, ds = [.sl x.nl (x.l.map S_Span.D) (zsl x.nl 2) none] ∧ x.l.length ≤ 9223372036854775807 := by
  rw [Sh, cfg_ty, cty23] at h
  simp only [ty23] at h
  rcases h with h | ⟨els, te, h1, h2, h3, h4⟩
  · exact ⟨GS.nil, h, by simp [GS.nil]⟩
  · obtain rfl : te = ty25 := (Option.some.inj (cty25.symm.trans h1)).symm
    have key : ∀ els : List D, (∀ d ∈ els, Sh cfg (f + 2) 25 d.cells ∧ (ty25.isAgg = true → d = .agg d.cells) ∧ (ty25.isAgg = false → d.cells = [d])) → ∃ l : List S_Span, els = l.map S_Span.D := by
      intro els
      induction els with
      | nil => intro _; exact ⟨[], rfl⟩
      | cons d els ih =>
        intro hd
        obtain ⟨l, hl⟩ := ih fun d' h' => hd d' (List.mem_cons_of_mem _ h')
        obtain ⟨q1, q2, q3⟩ := hd d (by simp)
        obtain ⟨a, e, _⟩ := sh25 (f := f + 0) q1
        have hx : d = S_Span.D a := by rw [q2 rfl, e]; rfl
        exact ⟨a :: l, by rw [List.map_cons, ← hx, ← hl]⟩
    obtain ⟨l, rfl⟩ := key els h4
    refine ⟨GS.some l, h2, ?_⟩
    simp only [List.length_map, maxLen] at h3
    simp only [GS.some]
    omega
theorem sh22 {f : Nat} {ds : List D} (h : Sh cfg (f + 3) 22 ds) : ∃ x : GS S_Span, ds = [.sl x.nl (x.l.map S_Span.D) (zsl x.nl 2) none] ∧ x.l.length ≤ 9223372036854775807 := by
  rw [Sh, cfg_ty, cty22] at h
  simp only [ty22] at h
  rcases h with h | ⟨els, te, h1, h2, h3, h4⟩
  · exact ⟨GS.nil, h, by simp [GS.nil]⟩
  · obtain rfl : te = ty25 := (Option.some.inj (cty25.symm.trans h1)).symm
    have key : ∀ els : List D, (∀ d ∈ els, Sh cfg (f + 2) 25 d.cells ∧ (ty25.isAgg = true → d = .agg d.cells) ∧ (ty25.isAgg = false → d.cells = [d])) → ∃ l : List S_Span, els = l.map S_Span.D := by
      intro els
      induction els with
      | nil => intro _; exact ⟨[], rfl⟩
      | cons d els ih =>
        intro hd
        obtain ⟨l, hl⟩ := ih fun d' h' => hd d' (List.mem_cons_of_mem _ h')
        obtain ⟨q1, q2, q3⟩ := hd d (by simp)
        obtain ⟨a, e, _⟩ := sh25 (f := f + 0) q1
        have hx : d = S_Span.D a := by rw [q2 rfl, e]; rfl
        exact ⟨a :: l, by rw [List.map_cons, ← hx, ← hl]⟩
    obtain ⟨l, rfl⟩ := key els h4
    refine ⟨GS.some l, h2, ?_⟩
    simp only [List.length_map, maxLen] at h3
    simp only [GS.some]
    omega
theorem arg23 {H : Type} {enc : TypeId × Value → H} {w : World} {base base' : Nat} {sp : Nat → Bool} {held : Bool} {v : Value} {d : DataW H} {p : List MemPlace} {r : Reach} (h : DataW.Trod enc Tryz.prog w base sp held 23 v d p) (hv : Value.okWide Tryz.prog w r base' 23 v) : ∃ x : GS S_Span, Rep (memOf w) noLoc (GS.D S_Span.D 2 x) v ∧ x.l.length ≤ 9223372036854775807 := by
  obtain ⟨ds, h1, h2⟩ := arg_rep h hv (by kernel_rfl) (by kernel_rfl)
  obtain ⟨x, rfl, hx⟩ := sh23 (f := 5) h2
  obtain ⟨u, e, hu⟩ := repL_one h1
  exact ⟨x, by rw [one_cell e (ok_notAgg hv (by rw [Tryz.underlying23]; simp) (by rw [Tryz.underlying23]; simp))]; exact hu, hx⟩
theorem arg3 {H : Type} {enc : TypeId × Value → H} {w : World} {base base' : Nat} {sp : Nat → Bool} {held : Bool} {v : Value} {d : DataW H} {p : List MemPlace} {r : Reach} (h : DataW.Trod enc Tryz.prog w base sp held 3 v d p) (hv : Value.okWide Tryz.prog w r base' 3 v) : ∃ x : Int, Rep (memOf w) noLoc (I x) v ∧ R64 x := by
  obtain ⟨ds, h1, h2⟩ := arg_rep h hv (by kernel_rfl) (by kernel_rfl)
  obtain ⟨x, rfl, hx⟩ := sh3 (f := 7) h2
  obtain ⟨u, e, hu⟩ := repL_one h1
  exact ⟨x, by rw [one_cell e (ok_notAgg hv (by rw [Tryz.underlying3]; simp) (by rw [Tryz.underlying3]; simp))]; exact hu, hx⟩
theorem arg22 {H : Type} {enc : TypeId × Value → H} {w : World} {base base' : Nat} {sp : Nat → Bool} {held : Bool} {v : Value} {d : DataW H} {p : List MemPlace} {r : Reach} (h : DataW.Trod enc Tryz.prog w base sp held 22 v d p) (hv : Value.okWide Tryz.prog w r base' 22 v) : ∃ x : GS S_Span, Rep (memOf w) noLoc (GS.D S_Span.D 2 x) v ∧ x.l.length ≤ 9223372036854775807 := by
  obtain ⟨ds, h1, h2⟩ := arg_rep h hv (by kernel_rfl) (by kernel_rfl)
  obtain ⟨x, rfl, hx⟩ := sh22 (f := 5) h2
  obtain ⟨u, e, hu⟩ := repL_one h1
  exact ⟨x, by rw [one_cell e (ok_notAgg hv (by rw [Tryz.underlying22]; simp) (by rw [Tryz.underlying22]; simp))]; exact hu, hx⟩
open Go.Lib in
/-- The table of powers, as the rows list it. -/
theorem tab_ok {W : World} (h : laidMetH Tryz.prog [("math/bits.deBruijn32tab", YtpkjnefhnedfdaaGreatDoor.Rows.laid_math_bits_deBruijn32tab), ("math/bits.deBruijn64tab", YtpkjnefhnedfdaaGreatDoor.Rows.laid_math_bits_deBruijn64tab), ("internal/strconv.uint64pow10", YtpkjnefhnedfdaaGreatDoor.Rows.laid_internal_strconv_uint64pow10), ("unicode/utf8.acceptRanges", YtpkjnefhnedfdaaGreatDoor.Rows.laid_unicode_utf8_acceptRanges), ("strconv.ErrRange", YtpkjnefhnedfdaaGreatDoor.Rows.laid_strconv_ErrRange), ("strconv.ErrSyntax", YtpkjnefhnedfdaaGreatDoor.Rows.laid_strconv_ErrSyntax), ("unicode/utf8.first", YtpkjnefhnedfdaaGreatDoor.Rows.laid_unicode_utf8_first)] W) : TabOK cfg W := by
  obtain ⟨ps, h, _⟩ : laidMet Tryz.prog [("math/bits.deBruijn32tab", YtpkjnefhnedfdaaGreatDoor.Rows.laid_math_bits_deBruijn32tab), ("math/bits.deBruijn64tab", YtpkjnefhnedfdaaGreatDoor.Rows.laid_math_bits_deBruijn64tab), ("internal/strconv.uint64pow10", YtpkjnefhnedfdaaGreatDoor.Rows.laid_internal_strconv_uint64pow10), ("unicode/utf8.acceptRanges", YtpkjnefhnedfdaaGreatDoor.Rows.laid_unicode_utf8_acceptRanges), ("strconv.ErrRange", YtpkjnefhnedfdaaGreatDoor.Rows.laid_strconv_ErrRange), ("strconv.ErrSyntax", YtpkjnefhnedfdaaGreatDoor.Rows.laid_strconv_ErrSyntax), ("unicode/utf8.first", YtpkjnefhnedfdaaGreatDoor.Rows.laid_unicode_utf8_first)] W := h
  obtain ⟨_, _, _, _, _, q, _, _, _, _, h, _⟩ := h
  obtain ⟨_, _, _, _, _, q, _, _, _, _, h, _⟩ := h
  obtain ⟨g', t', cs, fuel, p, q, hg', ht', hvar, hd, _⟩ := h
  intro g cs' hc
  have hg : g = F1.gPow ∧ cs' = F1.powTab := by
    have hc' : (bif eqb g F1.gPow then some F1.powTab else none) = some cs' := hc
    cases he : eqb g F1.gPow with
    | false => rw [he] at hc'; cases hc'
    | true => rw [he] at hc'; cases hc'; exact ⟨zH.1 he, rfl⟩
  obtain ⟨rfl, rfl⟩ := hg
  obtain rfl := Option.some.inj (F1.gPow_is.symm.trans hg')
  have hgt : (Tryz.prog.globals[F1.gPow]?).map (·.type) = some 166 := by kernel_rfl
  obtain rfl := Option.some.inj (hgt.symm.trans ht')
  have hz : (YtpkjnefhnedfdaaGreatDoor.Rows.laid_internal_strconv_uint64pow10 : DataW Unit) = Lib.tabData .u64 Lib.pow10Tab := by kernel_rfl
  rw [hz] at hd
  have hcs := cells_of_tab (n := 20) Tryz.underlying166 Tryz.underlying140 (by kernel_rfl) (by kernel_rfl) hd
  unfold World.var? at hvar
  rw [F1.gPow_is, Option.bind_some] at hvar
  split at hvar
  · rename_i c t fr hh
    cases hvar
    exact ⟨t, fr, by rw [hh, F1.powTab_is, ← hcs]⟩
  · cases hvar
noncomputable def laidWorld (os : Os) : World :=
  let n := (World.settled Tryz.prog os).heap.size
  { World.holding Tryz.prog os ⟨#[.cells #[.string ⟨#[118, 97, 108, 117, 101, 32, 111, 117, 116, 32, 111, 102, 32, 114, 97, 110, 103, 101]⟩] 174 (0, 0), .cells #[.string ⟨#[105, 110, 118, 97, 108, 105, 100, 32, 115, 121, 110, 116, 97, 120]⟩] 174 (0, 0)], #[], []⟩ with heap := ((((((((World.holding Tryz.prog os ⟨#[.cells #[.string ⟨#[118, 97, 108, 117, 101, 32, 111, 117, 116, 32, 111, 102, 32, 114, 97, 110, 103, 101]⟩] 174 (0, 0), .cells #[.string ⟨#[105, 110, 118, 97, 108, 105, 100, 32, 115, 121, 110, 116, 97, 120]⟩] 174 (0, 0)], #[], []⟩).heap.modify 6 fun | .cells _ t fr => .cells (#[.int .u8 0, .int .u8 1, .int .u8 28, .int .u8 2, .int .u8 29, .int .u8 14, .int .u8 24, .int .u8 3, .int .u8 30, .int .u8 22, .int .u8 20, .int .u8 15, .int .u8 25, .int .u8 17, .int .u8 4, .int .u8 8, .int .u8 31, .int .u8 27, .int .u8 13, .int .u8 23, .int .u8 21, .int .u8 19, .int .u8 16, .int .u8 7, .int .u8 26, .int .u8 12, .int .u8 18, .int .u8 6, .int .u8 11, .int .u8 5, .int .u8 10, .int .u8 9]) t fr | o => o).modify 7 fun | .cells _ t fr => .cells (#[.int .u8 0, .int .u8 1, .int .u8 56, .int .u8 2, .int .u8 57, .int .u8 49, .int .u8 28, .int .u8 3, .int .u8 61, .int .u8 58, .int .u8 42, .int .u8 50, .int .u8 38, .int .u8 29, .int .u8 17, .int .u8 4, .int .u8 62, .int .u8 47, .int .u8 59, .int .u8 36, .int .u8 45, .int .u8 43, .int .u8 51, .int .u8 22, .int .u8 53, .int .u8 39, .int .u8 33, .int .u8 30, .int .u8 24, .int .u8 18, .int .u8 12, .int .u8 5, .int .u8 63, .int .u8 55, .int .u8 48, .int .u8 27, .int .u8 60, .int .u8 41, .int .u8 37, .int .u8 16, .int .u8 46, .int .u8 35, .int .u8 44, .int .u8 21, .int .u8 52, .int .u8 32, .int .u8 23, .int .u8 11, .int .u8 54, .int .u8 26, .int .u8 40, .int .u8 15, .int .u8 34, .int .u8 20, .int .u8 31, .int .u8 10, .int .u8 25, .int .u8 14, .int .u8 19, .int .u8 9, .int .u8 13, .int .u8 8, .int .u8 7, .int .u8 6]) t fr | o => o).modify 3 fun | .cells _ t fr => .cells (#[.int .u64 1, .int .u64 10, .int .u64 100, .int .u64 1000, .int .u64 10000, .int .u64 100000, .int .u64 1000000, .int .u64 10000000, .int .u64 100000000, .int .u64 1000000000, .int .u64 10000000000, .int .u64 100000000000, .int .u64 1000000000000, .int .u64 10000000000000, .int .u64 100000000000000, .int .u64 1000000000000000, .int .u64 10000000000000000, .int .u64 100000000000000000, .int .u64 1000000000000000000, .int .u64 10000000000000000000]) t fr | o => o).modify 5 fun | .cells _ t fr => .cells (#[.int .u8 128, .int .u8 191, .int .u8 160, .int .u8 191, .int .u8 128, .int .u8 159, .int .u8 144, .int .u8 191, .int .u8 128, .int .u8 143, .int .u8 0, .int .u8 0, .int .u8 0, .int .u8 0, .int .u8 0, .int .u8 0, .int .u8 0, .int .u8 0, .int .u8 0, .int .u8 0, .int .u8 0, .int .u8 0, .int .u8 0, .int .u8 0, .int .u8 0, .int .u8 0, .int .u8 0, .int .u8 0, .int .u8 0, .int .u8 0, .int .u8 0, .int .u8 0]) t fr | o => o).modify 2 fun | .cells _ t fr => .cells (#[.iface 172 (.pointer (some ⟨n + 0, 0, none⟩))]) t fr | o => o).modify 1 fun | .cells _ t fr => .cells (#[.iface 172 (.pointer (some ⟨n + 1, 0, none⟩))]) t fr | o => o).modify 4 fun | .cells _ t fr => .cells ((Go.Pinned.utf8FirstZ.map fun z => Value.int .u8 (Int.ofNat z)).toArray) t fr | o => o) }
end Go.VS

/-
  RangesElements answers true. (A text of this claim's own; nothing of it is trusted.)
-/
namespace Go.VS
open Go
theorem law_elements (l r : GS S_Span) (n : Int) : l.l.length ≤ 9223372036854775807 → r.l.length ≤ 9223372036854775807 → R64 n → (lim cfg).pure 12 [GS.D S_Span.D 2 l, GS.D S_Span.D 2 r, I n] = some (B true) := fun h1 h2 h3 => by
  rw [T_l_RangesElements l r n h1 h2 h3.1]
  unfold l_RangesElements
  simp only [Bool.cond_self]
end Go.VS

