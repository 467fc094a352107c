/- Nothing of a statement is proved in this text alone: it is part 5 of the proof's own tools, an evaluator of the code over deep values, its soundness, and what it makes of this seat's functions. Conditions: none beyond the statement's own. -/
import Derived.Test.YtnifoeahomkdlaaVsOGb4
import Derived.OpenShut
import Derived.Deep.Slices
import Derived.ChangeStays
import Derived.ReadAgain
import Derived.ChangeSame
import Derived.ChangeBears2
import Derived.Test.YtnifoeahomkdlaaRows
import Derived.WalkKit
import Derived.ProofKit
import Derived.Deep.DeepHandedRow
import Derived.Lib.LaidTab
set_option linter.unusedSimpArgs false
set_option linter.unusedVariables false
/-
  Orders: gains; the width that is left; what is needed. (A text of this claim's own; nothing of it is trusted.)
-/
namespace Go.VS
set_option maxHeartbeats 0
theorem rright5 {e : S_Estate} {items : GS Int} (hL : items.l.length ≤ 9223372036854775807) : ∀ (l : List Int) (i : Nat), items.l.drop i = l → (r_Right_2 e items l i = .x0 ↔ inc (if i = 0 then -1 else items.at ((i : Int) - 1)) (e.items.l.length : Int) l)
  | [], i, _ => by simp [r_Right_2, inc]
  | x :: l, i, hd => by
    have hlt := zx hd
    have hx : items.at (i : Int) = x := at_of hd
    have ih := rright5 (e := e) (items := items) hL l (i + 1) (zK hd)
    rw [if_neg (by omega), show ((i + 1 : Nat) : Int) - 1 = (i : Int) by omega, hx] at ih
    unfold r_Right_2
    simp only [inc]
    cases h1 : decide (x < 0) with
    | true => have := of_decide_eq_true h1; simp only [cond_true]; exact ⟨fun h => (by cases h), fun h => by omega⟩
    | false =>
      have := of_decide_eq_false h1
      cases h2 : decide (x ≥ ((e.items.l.length : Nat) : Int)) with
      | true => have := of_decide_eq_true h2; simp only [cond_true, cond_false]; exact ⟨fun h => (by cases h), fun h => by omega⟩
      | false =>
        have := of_decide_eq_false h2
        simp only [cond_false]
        by_cases h0 : i = 0
        · subst h0
          have e0 : decide (((0 : Nat) : Int) > 0) = false := rfl
          rw [e0, if_pos rfl]
          simp only [cond_false, ih]
          exact ⟨fun h => ⟨by omega, by omega, by omega, h⟩, fun h => h.2.2.2⟩
        · rw [if_neg h0, decide_eq_true (by omega : ((i : Nat) : Int) > 0)]
          simp only [cond_true]
          rw [w64_eq (by omega) (by omega)]
          cases h2 : decide (items.at (((i : Nat) : Int) - 1) ≥ x) with
          | true => have := of_decide_eq_true h2; simp only [cond_true]; exact ⟨fun h => (by cases h), fun h => by omega⟩
          | false =>
            have := of_decide_eq_false h2
            simp only [cond_false, ih]
            exact ⟨fun h => ⟨by omega, by omega, by omega, h⟩, fun h => h.2.2.2⟩
theorem rright_iff {e : S_Estate} {items : GS Int} (hL : items.l.length ≤ 9223372036854775807) : r_Right e items = true ↔ inc (-1) (e.items.l.length : Int) items.l := by
  have k := rright5 (e := e) hL items.l 0 List.drop_zero
  rw [if_pos rfl] at k
  rw [← k]
  unfold r_Right
  cases r_Right_2 e items items.l 0 <;> simp
theorem right_of {e : S_Estate} {items : GS Int} (hL : items.l.length ≤ 9223372036854775807) (h : V e) (hi : inc (-1) (e.items.l.length : Int) items.l) : zB e items = 0 := (right_iff hL).2 ⟨check_iff.2 h, hi⟩
theorem inc_short {e : S_Estate} {l : List Int} (h : V e) (hi : inc (-1) (e.items.l.length : Int) l) : l.length ≤ 12 := by
  have := h.n2
  by_cases hn : l = []
  · rw [hn]; simp
  · have := inc_len hi (by omega) hn
    omega
/-! ### gains -/
def gn (x : S_Item) : Int := max 0 (x.now.hi - x.now.lo - 2 * x.error)
theorem gain_eq {x : S_Item} (h : OkItem x) : zo x = gn x := by
  obtain ⟨a, b, c, d, e, f, g⟩ := h
  unfold zo gn
  rw [imax_eq, w64_eq (n := x.now.hi - x.now.lo) (by omega) (by omega), w64_eq (n := 2 * x.error) (by omega) (by omega), w64_eq (by omega) (by omega)]
theorem gn_bd {x : S_Item} (h : OkItem x) : 0 ≤ gn x ∧ gn x ≤ x.now.hi - x.now.lo := by
  obtain ⟨a, b, c, d, e, f, g⟩ := h
  unfold gn
  omega
/-- What items gain. -/
def gs (e : S_Estate) (l : List Int) : List Int := l.map (fun i => gn (e.items.at i))
theorem gains_eq {e : S_Estate} (h : V e) {items : GS Int} (hi : ∀ i ∈ items.l, 0 ≤ i ∧ i < (e.items.l.length : Int)) : (zd e items).l = gs e items.l := by
  rw [(gains_l e items).1]
  refine List.map_congr_left fun i hm => ?_
  exact gain_eq (h.it _ (at_mem (hi i hm).1 (hi i hm).2))
theorem tot_app (a b : List Int) : tot (a ++ b) = tot a + tot b := by
  induction a with
  | nil => simp [tot]
  | cons x a ih => simp only [List.cons_append, tot, ih]; omega
theorem total3_eq : ∀ (l : List Int) (n : Int), (∀ x ∈ l, 0 ≤ x ∧ x ≤ 1073741824) → 0 ≤ n → n + 1073741824 * (l.length : Int) ≤ 4611686018427387904 → orders_total_3 l n = .x0 (n + tot l)
  | [], n, _, _, _ => by simp [orders_total_3, tot]
  | x :: l, n, h, h0, h1 => by
    have hx := h x List.mem_cons_self
    simp only [List.length_cons] at h1
    unfold orders_total_3
    rw [w64_eq (by omega) (by omega), total3_eq l _ (fun y hy => h y (List.mem_cons_of_mem _ hy)) (by omega) (by omega)]
    simp only [tot]
    congr 1
    omega
theorem total_eq {s : GS Int} (h : ∀ x ∈ s.l, 0 ≤ x ∧ x ≤ 1073741824) (hn : s.l.length ≤ 1000) : zf s = tot s.l := by
  unfold zf
  rw [total3_eq s.l 0 h (by omega) (by omega)]
  simp
theorem gs_bd {e : S_Estate} (h : V e) {l : List Int} (hi : ∀ i ∈ l, 0 ≤ i ∧ i < (e.items.l.length : Int)) : ∀ x ∈ gs e l, 0 ≤ x ∧ x ≤ 1073741824 := by
  intro x hx
  obtain ⟨i, hm, rfl⟩ := List.mem_map.1 hx
  have hk := h.it _ (at_mem (hi i hm).1 (hi i hm).2)
  have := gn_bd hk
  have := hk.2.2.1; have := hk.1
  omega
def Gl (e : S_Estate) : List Int := e.items.l.map gn
theorem tot_nonneg : ∀ {l : List Int}, (∀ x ∈ l, 0 ≤ x) → 0 ≤ tot l
  | [], _ => Int.le_refl _
  | x :: l, h => by
    have := h x List.mem_cons_self
    have := tot_nonneg (l := l) (fun y hy => h y (List.mem_cons_of_mem _ hy))
    simp only [tot]; omega
theorem tot_drop {l : List Int} (h : ∀ x ∈ l, 0 ≤ x) {i j : Nat} (hij : i ≤ j) : tot (l.drop j) ≤ tot (l.drop i) := by
  have e : l.drop j = (l.drop i).drop (j - i) := by rw [List.drop_drop]; congr 1; omega
  rw [e]
  have := tot_app ((l.drop i).take (j - i)) ((l.drop i).drop (j - i))
  rw [List.take_append_drop] at this
  have : 0 ≤ tot ((l.drop i).take (j - i)) := tot_nonneg fun x hx => h x (List.mem_of_mem_drop (List.mem_of_mem_take hx))
  omega
theorem Gl_nonneg {e : S_Estate} (h : V e) : ∀ x ∈ Gl e, 0 ≤ x := by
  intro x hx
  obtain ⟨y, hy, rfl⟩ := List.mem_map.1 hx
  exact (gn_bd (h.it y hy)).1
theorem gs_le {e : S_Estate} (h : V e) : ∀ {p : Int} {l : List Int}, -1 ≤ p → inc p (e.items.l.length : Int) l → tot (gs e l) ≤ tot ((Gl e).drop (p + 1).toNat)
  | p, [], hp, _ => tot_nonneg fun x hx => Gl_nonneg h x (List.mem_of_mem_drop hx)
  | p, x :: l, hp, hi => by
    obtain ⟨h1, h2, h3, h4⟩ := hi
    have ih := gs_le h (p := x) (by omega) h4
    have hlt : x.toNat < (Gl e).length := by unfold Gl; rw [List.length_map]; omega
    have hd : (Gl e).drop x.toNat = (Gl e)[x.toNat] :: (Gl e).drop (x.toNat + 1) := List.drop_eq_getElem_cons hlt
    have hg : (Gl e)[x.toNat] = gn (e.items.at x) := by
      have hlt' : x.toNat < e.items.l.length := by omega
      simp only [Gl, List.getElem_map, GS.at, List.getD_eq_getElem?_getD, List.getElem?_eq_getElem hlt']
      rfl
    have hm := tot_drop (Gl_nonneg h) (i := (p + 1).toNat) (j := x.toNat) (by omega)
    rw [hd, hg] at hm
    rw [show (x + 1).toNat = x.toNat + 1 by omega] at ih
    simp only [gs, List.map_cons, tot] at *
    omega
theorem Gl_tot {e : S_Estate} (h : V e) : tot (Gl e) ≤ sHi e.items.l - sLo e.items.l := by
  have key : ∀ l : List S_Item, (∀ x ∈ l, OkItem x) → tot (l.map gn) ≤ sHi l - sLo l := by
    intro l
    induction l with
    | nil => intro _; simp [tot, sHi, sLo]
    | cons x l ih =>
      intro hl
      have := ih fun y hy => hl y (List.mem_cons_of_mem _ hy)
      have := gn_bd (hl x List.mem_cons_self)
      simp only [List.map_cons, tot, sHi, sLo]
      omega
  exact key _ h.it
theorem gs_range {e : S_Estate} (h : V e) {l : List Int} (hi : inc (-1) (e.items.l.length : Int) l) : 0 ≤ tot (gs e l) ∧ tot (gs e l) ≤ sHi e.items.l - sLo e.items.l := by
  have h1 := gs_le h (by omega) hi
  have h2 := Gl_tot h
  have h3 := gs_bd h (inc_mem hi)
  simp at h1
  exact ⟨tot_nonneg fun x hx => (h3 x hx).1, by omega⟩
/-! ### the width that is left behind a gain -/
def wn (e : S_Estate) (g : Int) : S_window := ⟨⟨sLo e.items.l, sHi e.items.l - g⟩, g, e.whole⟩
def Wg (e : S_Estate) (g : Int) : Int := wf (wn e g) (wpos (wn e g))
theorem wn_ok {e : S_Estate} (h : V e) {g : Int} (h0 : 0 ≤ g) (h1 : g ≤ sHi e.items.l - sLo e.items.l) : Wk (wn e g) := by
  have hb := sums_bd h.sp
  have := h.n2
  have := h.lo; have := h.hi
  refine ⟨hb.1, ?_, ?_, h0, h.w0, h.w1, h.w2, h.lo, ?_⟩ <;> simp only [wn] <;> omega
theorem windowOf_eq {e : S_Estate} (h : V e) {g : Int} (h0 : 0 ≤ g) (h1 : g ≤ sHi e.items.l - sLo e.items.l) : zc e g = wn e g := by
  have hb := sums_bd h.sp
  have := h.n2
  unfold zc wn
  rw [all_eq h.sp h.n2]
  simp only []
  rw [w64_eq (by omega) (by omega)]
theorem wide_eq {e : S_Estate} (h : V e) {g : Int} (h0 : 0 ≤ g) (h1 : g ≤ sHi e.items.l - sLo e.items.l) : zw (zc e g) = (Wg e g, wpos (wn e g)) := by
  rw [windowOf_eq h h0 h1, widest_eq (wn_ok h h0 h1)]; rfl
theorem Wg_eq {e : S_Estate} (h : V e) {g : Int} (h0 : 0 ≤ g) (h2 : g ≤ sHi e.items.l - sLo e.items.l) : Wg e g = min (sHi e.items.l - sLo e.items.l - g) (hiS e - loS e) := by
  have := h.lo; have := h.hi; have := h.w1
  unfold Wg wf wpos wlo whi wn hiS loS
  simp only []
  omega
theorem Wg_mono {e : S_Estate} (h : V e) {g g' : Int} (h0 : 0 ≤ g) (h1 : g ≤ g') (h2 : g' ≤ sHi e.items.l - sLo e.items.l) : Wg e g' ≤ Wg e g := by
  rw [Wg_eq h (by omega) h2, Wg_eq h h0 (by omega)]
  omega
theorem Wg_nonneg {e : S_Estate} (h : V e) {g : Int} (h0 : 0 ≤ g) (h2 : g ≤ sHi e.items.l - sLo e.items.l) : 0 ≤ Wg e g := by
  have := loS_hiS h
  rw [Wg_eq h h0 h2]
  omega
theorem Wg_top {e : S_Estate} (h : V e) : Wg e (sHi e.items.l - sLo e.items.l) ≤ 0 := by
  have hb := sums_bd h.sp
  rw [Wg_eq h (by omega) (by omega)]
  omega
theorem gtot_eq {e : S_Estate} (h : V e) {items : GS Int} (hi : inc (-1) (e.items.l.length : Int) items.l) : zf (zd e items) = tot (gs e items.l) := by
  have := inc_short h hi
  rw [total_eq (by rw [gains_eq h (inc_mem hi)]; exact gs_bd h (inc_mem hi)) (by rw [z8]; omega), gains_eq h (inc_mem hi)]
theorem worst_eq {e : S_Estate} (h : V e) {items : GS Int} (hL : items.l.length ≤ 9223372036854775807) (hi : inc (-1) (e.items.l.length : Int) items.l) : zH e items = (Wg e (tot (gs e items.l)), 0) := by
  have hr := gs_range h hi
  unfold zH orders_worst
  rw [right_of hL h hi, gtot_eq h hi, wide_eq h hr.1 hr.2]
  rfl
/-! ### all items -/
theorem upto_inc (n : Nat) : inc (-1) (n : Int) (upto (n : Int)) := by
  have key : ∀ (k i : Nat), i + k = n → inc ((i : Int) - 1) (n : Int) ((List.range' i k).map (fun i => ((i : Nat) : Int))) := by
    intro k
    induction k with
    | zero => intro i _; exact trivial
    | succ k ih =>
      intro i hi
      rw [List.range'_succ]
      simp only [List.map_cons, inc]
      refine ⟨by omega, by omega, by omega, ?_⟩
      have := ih (i + 1) (by omega)
      rwa [show ((i + 1 : Nat) : Int) - 1 = (i : Int) by omega] at this
  unfold upto
  rw [Int.toNat_natCast, List.range_eq_range']
  exact key n 0 (by omega)
theorem gs_upto (e : S_Estate) : gs e (upto (e.items.l.length : Int)) = Gl e := by
  unfold gs Gl upto
  rw [Int.toNat_natCast, List.map_map]
  refine List.ext_getElem (by simp) fun i h1 h2 => ?_
  have hlt : i < e.items.l.length := by simpa using h2
  simp only [List.getElem_map, List.getElem_range, Function.comp, GS.at, Int.toNat_natCast, List.getD_eq_getElem?_getD, List.getElem?_eq_getElem hlt]
  rfl
theorem gainsF_eq {e : S_Estate} (h : V e) : (ze e).2 = 0 ∧ (ze e).1.l = Gl e := by
  unfold ze
  rw [check_iff.2 h]
  refine ⟨rfl, ?_⟩
  show (zd e (zy ((e.items.l.length : Nat) : Int))).l = _
  have e1 : (zy ((e.items.l.length : Nat) : Int)).l = upto (e.items.l.length : Int) := (numbers_l _).1
  rw [gains_eq h (by rw [e1]; exact upto_mem), e1, gs_upto]
theorem gall_eq {e : S_Estate} (h : V e) : zf (zd e (zy ((e.items.l.length : Nat) : Int))) = tot (Gl e) := by
  have e1 : (zy ((e.items.l.length : Nat) : Int)).l = upto (e.items.l.length : Int) := (numbers_l _).1
  rw [gtot_eq h (by rw [e1]; exact upto_inc _), e1, gs_upto]
/-! ### what is needed -/
theorem need8 {e : S_Estate} (h : V e) {width : Int} : ∀ (n : Nat) (lo hi : Int), 0 ≤ lo → lo ≤ hi → hi ≤ sHi e.items.l - sLo e.items.l → (hi - lo).toNat < n → (∀ g, 0 ≤ g → g < lo → Wg e g > width) → (∀ g, hi ≤ g → g ≤ sHi e.items.l - sLo e.items.l → Wg e g ≤ width) →
    ∃ m m', orders_Need_8 e width n lo hi = .x0 m m' ∧ 0 ≤ m ∧ m ≤ sHi e.items.l - sLo e.items.l ∧ ∀ g, 0 ≤ g → g ≤ sHi e.items.l - sLo e.items.l → (Wg e g ≤ width ↔ m ≤ g)
  | 0, _, _, _, _, _, hh, _, _ => by omega
  | n + 1, lo, hi, h0, h1, h2, hn, hA, hB => by
    have hb := sums_bd h.sp
    have hn2 := h.n2
    unfold orders_Need_8
    cases h3 : decide (lo < hi) with
    | false =>
      have := of_decide_eq_false h3
      refine ⟨lo, hi, rfl, h0, by omega, fun g g0 g1 => ⟨fun hw => ?_, fun hl => hB g (by omega) g1⟩⟩
      by_cases hlt : g < lo
      · have := hA g g0 hlt; omega
      · omega
    | true =>
      have h3' := of_decide_eq_true h3
      simp only [cond_true]
      have e1 : w64 (lo + hi) = lo + hi := w64_eq (by omega) (by omega)
      have e0 : (lo + hi).tdiv 2 = (lo + hi) / 2 := Int.tdiv_eq_ediv_of_nonneg (by omega)
      rw [e1, e0, w64_eq (n := (lo + hi) / 2) (by omega) (by omega), w64_eq (n := (lo + hi) / 2 + 1) (by omega) (by omega), wide_eq h (by omega) (by omega)]
      simp only []
      cases h4 : decide (Wg e ((lo + hi) / 2) ≤ width) with
      | true =>
        have h4' := of_decide_eq_true h4
        exact need8 h n lo _ h0 (by omega) (by omega) (by omega) hA (fun g g0 g1 => by
          have := Wg_mono h (g := (lo + hi) / 2) (by omega) g0 g1
          omega)
      | false =>
        have h4' := of_decide_eq_false h4
        exact need8 h n _ hi (by omega) (by omega) h2 (by omega) (fun g g0 g1 => by
          have := Wg_mono h (g := g) g0 (by omega : g ≤ (lo + hi) / 2) (by omega)
          omega) hB
theorem need_eq {e : S_Estate} (h : V e) {width : Int} (hw : 0 ≤ width) : ∃ m, zq e width = (m, decide (tot (Gl e) ≥ m), 0) ∧ 0 ≤ m ∧ ∀ g, 0 ≤ g → g ≤ sHi e.items.l - sLo e.items.l → (Wg e g ≤ width ↔ m ≤ g) := by
  have hb := sums_bd h.sp
  have hn := h.n2
  unfold zq
  rw [check_iff.2 h, all_eq h.sp h.n2, decide_eq_false (by omega : ¬ width < 0), gall_eq h]
  simp only [bne_self_eq_false, cond_false]
  rw [w64_eq (by omega) (by omega)]
  obtain ⟨m, m', h1, h2, h3, h4⟩ := need8 h (width := width) ((sHi e.items.l - sLo e.items.l - 0).toNat + 1) 0 (sHi e.items.l - sLo e.items.l) (by omega) (by omega) (by omega) (by omega) (fun g g0 g1 => by omega) (fun g g0 g1 => by
    have := Wg_top h
    have : g = sHi e.items.l - sLo e.items.l := by omega
    subst this; omega)
  refine ⟨m, ?_, h2, h4⟩
  rw [h1]
  simp only []
  cases decide (tot (Gl e) ≥ m) <;> rfl
/-! ### is it among them -/
theorem index2 (x : Int) : ∀ (l : List Int) (i : Nat), (x ∈ l → ∃ j y, slices_Index_2 x l i = .x1 j y) ∧ (x ∉ l → slices_Index_2 x l i = .x0)
  | [], i => ⟨fun h => (by cases h), fun _ => rfl⟩
  | y :: l, i => by
    unfold slices_Index_2
    cases h : (x == y) with
    | true =>
      have := eq_of_beq h
      subst this
      exact ⟨fun _ => ⟨_, _, rfl⟩, fun h => absurd List.mem_cons_self h⟩
    | false =>
      have hne : x ≠ y := by simpa using h
      have ih := index2 x l (i + 1)
      refine ⟨fun hm => ih.1 ((List.mem_cons.1 hm).resolve_left hne), fun hm => ih.2 fun hh => hm (List.mem_cons_of_mem _ hh)⟩
theorem contains_eq (s : GS Int) (x : Int) : slices_Contains s x = decide (x ∈ s.l) := by
  unfold slices_Contains slices_Index
  have k := index2 x s.l 0
  by_cases h : x ∈ s.l
  · obtain ⟨j, y, e⟩ := k.1 h
    rw [e, decide_eq_true h]
    simp only []
    rw [decide_eq_true (by omega)]
    rfl
  · rw [k.2 h, decide_eq_false h]
    rfl
end Go.VS
/-
  VS, part P: what arguments that read as data stand for; what a law's call leaves. (A text of this claim's own; nothing of it is trusted.)
-/
namespace Go.VS
open Go Go.RowKit Go.ChangeShapes Go.WideShapes

def memOf (w : World) : Mem := fun b o => w.cell? ⟨b, o, none⟩
theorem memOf_ok (w : World) : MOK (memOf w) w := fun _ _ _ h => h

/-- Which cells a value of a type may have. -/
def Sh (C : Cfg) : Nat → TypeId → List D → Prop
  | 0, _, _ => False
  | f + 1, t, ds => match C.ty t with
    | some ty => match ty.kind with
      | .int k => ∃ n, ds = [.val (.int k n)] ∧ k.min ≤ n ∧ n ≤ k.max
      | .bool => ∃ b, ds = [B b]
      | .str => ∃ s : ByteArray, ds = [.val (.string s)] ∧ s.size ≤ maxLen
      | .struct fs => ds.length = ty.size ∧ ∀ p ∈ fs, ∃ tf, C.ty p.1 = some tf ∧ Sh C f p.1 ((ds.drop p.2).take tf.size)
      | .arr n e => ds.length = ty.size ∧ ∃ te, C.ty e = some te ∧ ∀ i, i < n → Sh C f e ((ds.drop (i * te.size)).take te.size)
      | .slice e => ds = [.sl true [] 0 none] ∨ ∃ els te, C.ty e = some te ∧ ds = [.sl false els te.size none] ∧ els.length ≤ maxLen ∧
          ∀ d ∈ els, Sh C f e d.cells ∧ (te.isAgg = true → d = .agg d.cells) ∧ (te.isAgg = false → d.cells = [d])
      | _ => False
    | none => False
/-- Types without slices. -/
def flatT (C : Cfg) : Nat → TypeId → Bool
  | 0, _ => false
  | f + 1, t => match C.ty t with
    | some ty => match ty.kind with
      | .int _ => true
      | .bool => true
      | .str => true
      | .struct fs => fs.all fun p => flatT C f p.1
      | .arr _ e => flatT C f e
      | _ => false
    | none => false
/-- Types with slices whose elements have none. -/
def topT (C : Cfg) : Nat → TypeId → Bool
  | 0, _ => false
  | f + 1, t => match C.ty t with
    | some ty => match ty.kind with
      | .int _ => true
      | .bool => true
      | .str => true
      | .struct fs => fs.all fun p => topT C f p.1
      | .arr _ e => topT C f e
      | .slice e => flatT C f e
      | _ => false
    | none => false
theorem flat_top {C : Cfg} : ∀ {f : Nat} {t : TypeId}, flatT C f t = true → topT C f t = true
  | 0, _, h => by cases h
  | f + 1, t, h => by
    unfold flatT at h; unfold topT
    split at h
    · rename_i ty ht
      try rw [ht]
      try simp only []
      cases hk : ty.kind <;> rw [hk] at h <;> simp only [] at h ⊢ <;> (try (cases h; done))
      · exact flat_top h
      · simp only [List.all_eq_true] at h ⊢
        exact fun p hp => flat_top (h p hp)
    · cases h

def plainCells (cs : List Value) : Prop := ∀ v ∈ cs, ∀ a l c, v = .slice (some a) l c → a.spot = none

theorem cellsOf_of {P : Program} {t : TypeId} {ty : Ty} (h : tyOf P t = some ty) : P.cellsOf t = ty.size := by
  obtain ⟨i, d, hi, hd, hz, hk, hs, hb⟩ := tyOf_spec h
  simp [Program.cellsOf, hi, hs]

theorem list_parts {α : Type} (l : List α) (n k : Nat) (h : l.length = n * k) : l = (List.range n).flatMap fun i => (l.drop (i * k)).take k := by
  induction n generalizing l with
  | zero => simp at h ⊢; exact h
  | succ n ih =>
    rw [List.range_succ_eq_map, List.flatMap_cons]
    simp only [Nat.zero_mul, List.drop_zero, List.flatMap_map]
    have hl : (l.drop k).length = n * k := by rw [List.length_drop, h, Nat.add_mul]; omega
    have e := ih (l.drop k) hl
    have : (List.range n).flatMap (fun i => ((l.drop k).drop (i * k)).take k) = (List.range n).flatMap (fun i => (l.drop ((i + 1) * k)).take k) := by
      congr 1; funext i; rw [List.drop_drop]; congr 2; rw [Nat.add_mul]; omega
    rw [this] at e
    calc l = l.take k ++ l.drop k := (List.take_append_drop k l).symm
      _ = _ := by rw [← e]

/-- Parts that stand for parts, put together. -/
theorem zD.join {M : Mem} {Q : Nat → List D → Prop} : ∀ (n : Nat) (F : Nat → List Value), (∀ i, i < n → ∃ ds, zD M noLoc ds (F i) ∧ Q i ds) →
    ∃ G : Nat → List D, zD M noLoc ((List.range n).flatMap G) ((List.range n).flatMap F) ∧ ∀ i, i < n → zD M noLoc (G i) (F i) ∧ Q i (G i) := by
  intro n F h
  obtain ⟨G, hG⟩ := Go.Deep.choose_lt (α := List D) (p := fun i ds => zD M noLoc ds (F i) ∧ Q i ds) h
  refine ⟨G, ?_, hG⟩
  have : ∀ l : List Nat, (∀ i ∈ l, i < n) → zD M noLoc (l.flatMap G) (l.flatMap F) := by
    intro l
    induction l with
    | nil => intro _; simp [zD]
    | cons a l ih =>
      intro hl
      simp only [List.flatMap_cons]
      exact zD.append (hG a (hl a (by simp))).1 (ih fun i hi => hl i (List.mem_cons_of_mem _ hi))
  exact this _ fun i hi => by simpa using hi
theorem flatMap_part {α : Type} (n : Nat) (G : Nat → List α) (k : Nat) (h : ∀ i, i < n → (G i).length = k) (i : Nat) (hi : i < n) : (((List.range n).flatMap G).drop (i * k)).take k = G i := by
  induction n generalizing i G with
  | zero => omega
  | succ n ih =>
    rw [List.range_succ_eq_map, List.flatMap_cons, List.flatMap_map]
    have h0 := h 0 (by omega)
    cases i with
    | zero => simp [← h0]
    | succ i =>
      rw [List.drop_append, List.drop_eq_nil_of_le (by rw [h0, Nat.add_mul]; omega), List.nil_append, h0]
      have : (i + 1) * k - k = i * k := by rw [Nat.add_mul]; omega
      rw [this]
      exact ih (fun i => G (i + 1)) (fun i hi => h (i + 1) (by omega)) i (by omega)

/-- The fields of a struct cover its cells, one behind the other. -/
def rowed : Nat → List (Nat × Nat) → Option Nat
  | o, [] => some o
  | o, (off, size) :: r => if off = o then rowed (o + size) r else none
def rowedT (C : Cfg) : Nat → TypeId → Bool
  | 0, _ => false
  | f + 1, t => match C.ty t with
    | some ty => match ty.kind with
      | .int _ => ty.size == 1
      | .bool => ty.size == 1
      | .str => ty.size == 1
      | .slice e => ty.size == 1 && (match C.ty e with | some te => rowedT C f e && decide (0 < te.size) | none => false)
      | .struct fs => (fs.all fun p => rowedT C f p.1) && (match placesOf C fs with | some pl => rowed 0 pl == some ty.size | none => false)
      | .arr n e => rowedT C f e && (match C.ty e with | some te => ty.size == n * te.size | none => false)
      | _ => false
    | none => false

theorem rowed_parts {M : Mem} {cs : List Value} : ∀ (l : List (Nat × Nat)) (o n : Nat), rowed o l = some n → n ≤ cs.length → ∀ {Q : Nat → List D → Prop},
    (∀ i p, l[i]? = some p → ∃ ds, zD M noLoc ds ((cs.drop p.1).take p.2) ∧ Q i ds) →
    ∃ ds, zD M noLoc ds ((cs.drop o).take (n - o)) ∧ ds.length = n - o ∧ o ≤ n ∧ ∀ i p, l[i]? = some p → o ≤ p.1 ∧ Q i ((ds.drop (p.1 - o)).take p.2)
  | [], o, n, h, hn, Q, _ => by
    simp only [rowed, Option.some.injEq] at h; subst h
    exact ⟨[], by simp [zD], by simp, Nat.le_refl _, by simp⟩
  | (off, size) :: r, o, n, h, hn, Q, hq => by
    simp only [rowed] at h
    split at h
    · rename_i ho; subst ho
      obtain ⟨d0, h1, h2⟩ := hq 0 (off, size) rfl
      obtain ⟨ds, k1, k2, k3, k4⟩ := rowed_parts r (off + size) n h hn (Q := fun i => Q (i + 1)) (fun i p hp => hq (i + 1) p (by simpa using hp))
      have hl : d0.length = size := by rw [← h1.length, List.length_take, List.length_drop]; omega
      refine ⟨d0 ++ ds, ?_, by simp [hl, k2]; omega, by omega, fun i p hp => ?_⟩
      · have e : (cs.drop off).take (n - off) = (cs.drop off).take size ++ (cs.drop (off + size)).take (n - (off + size)) := by
          rw [show n - off = size + (n - (off + size)) by omega, List.take_add, List.drop_drop]
        rw [e]; exact h1.append k1
      · cases i with
        | zero => simp at hp; subst hp; simp [← hl]; simpa [hl] using h2
        | succ i =>
          obtain ⟨q1, q2⟩ := k4 i p (by simpa using hp)
          refine ⟨by omega, ?_⟩
          rw [List.drop_append, List.drop_eq_nil_of_le (by omega), List.nil_append, hl, show p.1 - off - size = p.1 - (off + size) by omega]
          exact q2
    · cases h

section
variable {H : Type} {enc : TypeId × Value → H} {C : Cfg} {w : World} {base : Nat} {sp : Nat → Bool} {held : Bool}

theorem placesOf_get : ∀ {fs : List (TypeId × Nat)} {pl : List (Nat × Nat)}, placesOf C fs = some pl → fs.length = pl.length ∧ ∀ (i : Nat) (p : Nat × Nat), pl[i]? = some p → ∃ t ty, fs[i]? = some (t, p.1) ∧ C.ty t = some ty ∧ ty.size = p.2
  | [], pl, h => by simp [placesOf] at h; subst h; simp
  | (t, off) :: r, pl, h => by
    simp only [placesOf] at h
    split at h
    · rename_i ty l h1 h2
      cases h
      obtain ⟨k1, k2⟩ := placesOf_get h2
      refine ⟨by simp [k1], fun i p hp => ?_⟩
      cases i with
      | zero => simp at hp; subst hp; exact ⟨t, ty, by simp, h1, rfl⟩
      | succ i => obtain ⟨t', ty', a, b, c⟩ := k2 i p (by simpa using hp); exact ⟨t', ty', by simpa using a, b, c⟩
    · cases h

theorem fieldsOf_get {fs : Array Field} {i : Nat} {p : TypeId × Nat} (h : (fs.toList.map fun f => (f.type, f.offset))[i]? = some p) : ∃ f : Field, fs[i]? = some f ∧ f.type = p.1 ∧ f.offset = p.2 := by
  rw [List.getElem?_map] at h
  cases hf : fs.toList[i]? with
  | none => rw [hf] at h; cases h
  | some f => rw [hf] at h; cases h; exact ⟨f, by simpa using hf, rfl, rfl⟩

/-- What reads as data has a deep value. -/
theorem trod_rep (hC : ∀ t ty, C.ty t = some ty → tyOf C.P t = some ty) : ∀ (f n : Nat) (t : TypeId) (cs : List Value) (x : DataW H × List MemPlace),
    DataW.trod enc C.P w base sp held n t cs = some x → topT C f t = true → rowedT C f t = true → (plainCells cs ∨ flatT C f t = true) →
    ∃ ds, zD (memOf w) noLoc ds cs ∧ Sh C f t ds
  | 0, _, _, _, _, _, h, _, _ => by cases h
  | f + 1, n, t, cs, x, h, ht, hw, hp => by
    unfold topT at ht
    split at ht
    case h_2 => cases ht
    rename_i ty hty
    have hto := hC _ _ hty
    obtain ⟨i, d, hi, hd, hz, hk, hs, hb⟩ := tyOf_spec hto
    unfold rowedT at hw
    rw [hty] at hw; simp only [] at hw
    unfold Sh
    rw [hty]; simp only []
    have hp' : plainCells cs ∨ (match ty.kind with | .int _ => true | .bool => true | .str => true | .struct fs => fs.all (fun p => flatT C f p.1) | .arr _ e => flatT C f e | _ => false) = true := by
      rcases hp with hp | hp
      · exact .inl hp
      · unfold flatT at hp; rw [hty] at hp; exact .inr hp
    clear hp
    cases d <;> simp only [tkOf] at hk <;> rw [hk] at ht hw hp' ⊢ <;> simp only [] at ht hw hp' ⊢ <;> (try (cases ht; done))
    case bool =>
      obtain ⟨b, rfl, _⟩ := DataW.trod_bool hd h
      exact ⟨[B b], by simp [zD, Rep], b, rfl⟩
    case int k =>
      obtain ⟨m, rfl, _, hwf⟩ := DataW.trod_int hd h
      simp only [Lit.wf, Bool.and_eq_true, decide_eq_true_eq] at hwf
      exact ⟨[.val (.int k m)], by simp [zD, Rep], m, rfl, hwf⟩
    case string =>
      obtain ⟨s, rfl, _, hsz⟩ := DataW.trod_string hd h
      exact ⟨[.val (.string s)], by simp [zD, Rep], s, rfl, hsz⟩
    case struct fs =>
      obtain ⟨xs, m, rfl, _, hl, hxl, hf⟩ := DataW.trod_struct hd h
      rw [cellsOf_of hto] at hl
      simp only [Bool.and_eq_true] at hw
      obtain ⟨hw1, hw2⟩ := hw
      split at hw2
      case h_2 => cases hw2
      rename_i pl hpl
      have hrow : rowed 0 pl = some ty.size := by simpa using hw2
      obtain ⟨hlen, hget⟩ := placesOf_get hpl
      obtain ⟨ds, k1, k2, _, k4⟩ := rowed_parts (M := memOf w) (cs := cs) pl 0 ty.size hrow (by omega) (Q := fun i ds => ∃ p, (fs.toList.map fun f => (f.type, f.offset))[i]? = some p ∧ Sh C f p.1 ds) (fun i p hp0 => by
        obtain ⟨t', ty', a, b, c⟩ := hget i p hp0
        obtain ⟨fd, e1, e2, e3⟩ := fieldsOf_get a
        simp only [] at e2 e3
        have hmem := List.mem_of_getElem? a
        simp only [List.all_eq_true] at ht hw1
        have hx := hf i fd e1
        have hil : i < xs.length := by rw [hxl]; exact (Array.getElem?_eq_some_iff.1 e1).1
        rw [List.getElem?_eq_getElem hil, e2, e3, cellsOf_of (hC _ _ b), c] at hx
        obtain ⟨ds, q1, q2⟩ := trod_rep hC f m _ _ _ hx (ht _ hmem) (hw1 _ hmem) (by
          rcases hp' with hp | hp
          · exact .inl fun v hv => hp v (List.mem_of_mem_drop (List.mem_of_mem_take hv))
          · simp only [List.all_eq_true] at hp; exact .inr (hp _ hmem))
        exact ⟨ds, q1, _, a, q2⟩)
      simp only [List.drop_zero, Nat.sub_zero] at k1 k2 k4
      rw [← hl, List.take_length] at k1
      refine ⟨ds, k1, k2, fun p hpm => ?_⟩
      obtain ⟨i, hi'⟩ := List.mem_iff_getElem?.1 hpm
      have hil : i < pl.length := by rw [← hlen]; exact (List.getElem?_eq_some_iff.1 hi').1
      obtain ⟨t', ty', a, b, c⟩ := hget i pl[i] (List.getElem?_eq_getElem hil)
      rw [hi'] at a; cases a
      obtain ⟨_, p', q1, q2⟩ := k4 i pl[i] (List.getElem?_eq_getElem hil)
      rw [hi'] at q1; cases q1
      exact ⟨ty', b, by rw [c]; exact q2⟩
    case array m e =>
      obtain ⟨xs, m', rfl, _, hl, hxl, hf⟩ := DataW.trod_array hd h
      rw [cellsOf_of hto] at hl
      simp only [Bool.and_eq_true] at hw
      obtain ⟨hw1, hw2⟩ := hw
      split at hw2
      case h_2 => cases hw2
      rename_i te hte
      have hsz : ty.size = m * te.size := by simpa using hw2
      have hce := cellsOf_of (hC _ _ hte)
      have hpart := list_parts cs m te.size (by rw [hl, hsz])
      obtain ⟨G, g1, g2⟩ := zD.join (M := memOf w) (Q := fun _ ds => Sh C f e ds) m (fun i => (cs.drop (i * te.size)).take te.size) (fun i hi => by
        have hx := hf i hi
        rw [List.getElem?_eq_getElem (by omega), hce] at hx
        exact trod_rep hC f m' _ _ _ hx ht hw1 (by
          rcases hp' with hp | hp
          · exact .inl fun v hv => hp v (List.mem_of_mem_drop (List.mem_of_mem_take hv))
          · exact .inr hp))
      rw [← hpart] at g1
      have hGl : ∀ i, i < m → (G i).length = te.size := by
        intro i hi
        rw [← (g2 i hi).1.length, List.length_take, List.length_drop, hl, hsz]
        have : (i + 1) * te.size ≤ m * te.size := Nat.mul_le_mul_right _ hi
        rw [Nat.add_mul] at this; omega
      refine ⟨_, g1, by rw [← g1.length]; exact hl, te, hte, fun i hi => ?_⟩
      rw [flatMap_part m G te.size hGl i hi]
      exact (g2 i hi).2
    case slice e =>
      simp only [Bool.and_eq_true] at hw
      obtain ⟨_, hw2⟩ := hw
      split at hw2
      case h_2 => cases hw2
      rename_i te hte
      simp only [Bool.and_eq_true, decide_eq_true_eq] at hw2
      obtain ⟨hw2, hpos⟩ := hw2
      have hce := cellsOf_of (hC _ _ hte)
      rcases Go.Deep.open_slice hd h with ⟨rfl, _⟩ | ⟨a, len, cap, m, n', Dd, Pl, rfl, hb, hl, hm, hmm, _, hx⟩
      · exact ⟨[.sl true [] 0 none], by simp [zD, Rep], .inl rfl⟩
      · have hlm : len ≤ m := by rw [hmm]; split <;> omega
        have hsp : a.spot = none := by
          rcases hp' with hp | hp
          · exact hp _ (by simp) a len cap rfl
          · cases hp
        obtain ⟨b, o, s⟩ := a
        simp only [] at hsp; subst hsp
        obtain ⟨G, hG⟩ := Go.Deep.choose_lt (α := D) (p := fun i d => (∃ u, Rep (memOf w) noLoc d u ∧ u.cells.size = te.size ∧ MemAt (memOf w) b (o + i * te.size) u.cells) ∧ Sh C f e d.cells ∧ (te.isAgg = true → d = .agg d.cells) ∧ (te.isAgg = false → d.cells = [d])) (n := len) (fun i hi => by
          obtain ⟨cs', c1, c2⟩ := hx i (by omega)
          obtain ⟨_, c3, c4⟩ := World.cells?_some c1
          obtain ⟨ds, q1, q2⟩ := trod_rep hC f n' e cs' _ c2 (flat_top ht) hw2 (.inr ht)
          rw [hce] at c3 c4
          have hM : MemAt (memOf w) b (o + i * te.size) cs'.toArray := by
            intro j u hu
            have hj : j < te.size := by
              have := (Array.getElem?_eq_some_iff.1 hu).1; simpa [c3] using this
            have := c4 j hj
            rw [addr_add, addr_add] at this
            unfold memOf
            rw [this]; simpa using hu
          cases hag : te.isAgg with
          | true =>
            refine ⟨.agg ds, ⟨.agg cs'.toArray, ?_, by simpa [Value.cells] using c3, hM⟩, q2, fun _ => rfl, fun h => by simp at h⟩
            simp only [Rep]; exact ⟨_, rfl, by simpa using q1⟩
          | false =>
            -- one cell
            obtain ⟨i2, d2, _, hd2, _, hk2, _, _⟩ := tyOf_spec (hC _ _ hte)
            have h1 : te.size = 1 ∧ ∃ d v, ds = [d] ∧ d.cells = [d] ∧ cs' = [v] ∧ v.cells = #[v] := by
              cases f with
              | zero => cases ht
              | succ f =>
                unfold flatT at ht; unfold rowedT at hw2; unfold Sh at q2
                rw [hte] at ht hw2 q2; simp only [] at ht hw2 q2
                cases d2 <;> simp only [tkOf] at hk2 <;> rw [hk2] at ht hw2 q2 <;> simp only [] at ht hw2 q2 <;> (try (cases ht; done))
                · obtain ⟨b', rfl⟩ := q2
                  simp only [zD, Rep] at q1
                  obtain ⟨v, r, rfl, rfl, rfl⟩ := q1
                  exact ⟨by simpa using hw2, _, _, rfl, rfl, rfl, rfl⟩
                · obtain ⟨z, rfl, _⟩ := q2
                  simp only [zD, Rep] at q1
                  obtain ⟨v, r, rfl, rfl, rfl⟩ := q1
                  exact ⟨by simpa using hw2, _, _, rfl, rfl, rfl, rfl⟩
                · obtain ⟨z, rfl, _⟩ := q2
                  simp only [zD, Rep] at q1
                  obtain ⟨v, r, rfl, rfl, rfl⟩ := q1
                  exact ⟨by simpa using hw2, _, _, rfl, rfl, rfl, rfl⟩
                · simp [Ty.isAgg, hk2] at hag
                · simp [Ty.isAgg, hk2] at hag
            obtain ⟨hsz, dd, v, rfl, hdc, rfl, hvc⟩ := h1
            simp only [zD] at q1
            obtain ⟨v', r, e1, q1, rfl⟩ := q1
            cases e1
            refine ⟨dd, ⟨v, q1, by rw [hvc, hsz]; rfl, by rw [hvc]; exact hM⟩, by rw [hdc]; exact q2, fun h => by simp at h, fun _ => hdc⟩)
        refine ⟨[.sl false ((List.range len).map G) te.size none], ?_, .inr ⟨_, te, hte, rfl, by simp; omega, fun d hd' => ?_⟩⟩
        · simp only [zD, Rep]
          refine ⟨_, [], rfl, ⟨by simp, fun _ => ⟨b, o, cap, by simp, by simpa using hl, hm, by simp, RepE.ofGet fun i d hd' => ?_⟩⟩, rfl⟩
          rw [List.getElem?_map] at hd'
          have hi' : i < len := by
            rcases Nat.lt_or_ge i len with h | h
            · exact h
            · rw [List.getElem?_eq_none (by simpa using h)] at hd'; cases hd'
          rw [List.getElem?_range hi'] at hd'; cases hd'
          exact (hG i hi').1
        · obtain ⟨i, hi', rfl⟩ := List.mem_map.1 hd'
          exact (hG i (by simpa using hi')).2

/-- An argument. -/
theorem plain_arg {P : Program} {r : Reach} {base : Nat} {t : TypeId} {v : Value} (h : Value.okWide P w r base t v) : plainCells v.cells.toList := by
  have key : ∀ u x, Cell.okWide P w r base u x → ∀ a l c, x = .slice (some a) l c → a.spot = none := by
    rintro u x hx a l c rfl
    unfold Cell.okWide at hx
    split at hx <;> try (rename_i h1 h2; cases h2; done)
    unfold Cell.ok at hx
    split at hx <;> try (rename_i h1 h2; cases h2; done)
    · rename_i h1 h2
      cases h2
      exact hx.2.2.2.1
    · cases hx
  unfold Value.okWide at h
  split at h
  · obtain ⟨cs, rfl, _, ts, _, _, hc⟩ := h
    intro x hx
    obtain ⟨i, hi⟩ := List.mem_iff_getElem?.1 hx
    obtain ⟨u, _, hu⟩ := hc i x (by simpa [Value.cells] using hi)
    exact key u x hu
  · obtain ⟨cs, rfl, _, ts, _, _, hc⟩ := h
    intro x hx
    obtain ⟨i, hi⟩ := List.mem_iff_getElem?.1 hx
    obtain ⟨u, _, hu⟩ := hc i x (by simpa [Value.cells] using hi)
    exact key u x hu
  · intro x hx a l c e
    have hv : x = v ∨ ∃ cs, v = .agg cs := by
      cases v <;> first | exact .inr ⟨_, rfl⟩ | (left; simpa [Value.cells] using hx)
    rcases hv with rfl | ⟨cs, rfl⟩
    · exact key t x h a l c e
    · exfalso
      unfold Cell.okWide at h
      split at h <;> try (rename_i h1 h2; cases h2; done)
      unfold Cell.ok at h
      split at h <;> first | (rename_i h1 h2; cases h2; done) | cases h
end
end Go.VS
/-
  VS, part P2: what a law's call leaves, as its row says it. (A text of this claim's own; nothing of it is trusted.)
-/
namespace Go.VS
open Go Go.RowKit Go.ChangeShapes Go.WideShapes

section
variable {H : Type} {enc : TypeId × Value → H} {P : Program}
theorem trodAll_carry {w w' : World} {base : Nat} {sp : Nat → Bool} {held : Bool} : ∀ {ts : List TypeId} {vs : List Value} {ds : List (DataW H)} {ps : List MemPlace}, DataW.TrodAll enc P w base sp held ts vs ds ps → (∀ p ∈ ps, w.sameAt w' p) → DataW.TrodAll enc P w' base sp held ts vs ds ps
  | [], [], [], _, h, _ => h
  | _ :: _, _ :: _, _ :: _, _, ⟨p, q, ⟨n, h1⟩, h2, e⟩, hs => ⟨p, q, ⟨n, DataW.trod_carry n _ _ _ h1 (fun x hx => hs x (by rw [e]; exact List.mem_append_left _ hx))⟩, trodAll_carry h2 (fun x hx => hs x (by rw [e]; exact List.mem_append_right _ hx)), e⟩
theorem sameAt_of {w w' : World} (h : ∀ b, b < w.heap.size → w'.heap[b]? = w.heap[b]?) : ∀ p : MemPlace, p.block < w.heap.size → w.sameAt w' p
  | .cell b off, hp => by
    show w'.cell? ⟨b, off, none⟩ = w.cell? ⟨b, off, none⟩
    unfold World.cell?
    rw [h b hp]
  | .map b, hp => h b hp
theorem post_same {f : Func} {s : ChangeSpec} {apart fresh handsOn again : Bool} {W W' : World} {args : Array Value} {v : Value} {ds gs : List (DataW H)} {before pa pv : List MemPlace}
    (hW : DataW.Whole enc P f.params.toList s.vars apart W args.toList ds gs before)
    (hres : ∀ (b : Nat) (sp : Nat → Bool) (hd : Bool), DataW.TrodAll enc P W' b sp hd f.resultTypes.toList (v.resultList f.resultTypes.size) (s.fn H (ds ++ gs)).results [])
    (hargs : ∀ sp : Nat → Bool, (∀ p ∈ before, sp p.block = true) → DataW.TrodAll enc P W' 0 sp true f.params.toList args.toList (s.fn H (ds ++ gs)).args pa)
    (hvars : ∀ sp : Nat → Bool, (∀ p ∈ before, sp p.block = true) → DataW.TrodVars enc P W' sp s.vars (s.fn H (ds ++ gs)).vars pv)
    (hps : before = pa ++ pv) (hk : W.keptBut W' (· ∈ before)) (hfz : ∀ p ∈ before, ∀ b off, p = .cell b off → W'.frozen? ⟨b, off, none⟩ = W.frozen? ⟨b, off, none⟩)
    (hok : ∀ (j : Nat) (t : TypeId) (r : Value), f.resultTypes[j]? = some t → (v.resultList f.resultTypes.size)[j]? = some r → Value.okWide P W' .any 0 t r) :
    s.post enc P f apart fresh handsOn again W args v W' := by
  have hold : ∀ p ∈ before, (fun b => decide (b < W.heap.size)) p.block = true := fun p hp => by simpa using hW.lt p hp
  refine ⟨ds, gs, before, [], pa, pv, hW, hres _ _ _, hargs _ hold, hvars _ hold, World.keptBut_mono (fun p hp => ⟨hp, ?_⟩) hk, fun _ => ?_⟩
  · rw [hps, List.mem_append] at hp
    exact Or.inr hp
  · obtain ⟨_, _, _, _, _, hz, hn⟩ := hW
    refine ⟨hok, _, _, ([] ++ pa) ++ pv, ⟨[] ++ pa, pv, trodAll_append (hargs _ (fun _ _ => rfl)) (hres _ _ _), hvars _ (fun _ _ => rfl), rfl, ?_, ?_⟩, ?_⟩
    · intro b off hp
      have hp' : MemPlace.cell b off ∈ before := by rw [hps]; simpa using hp
      rw [hfz _ hp' b off rfl]
      exact hz b off hp'
    · intro ha
      have := hn ha
      rw [hps] at this
      simpa using this
    · intro p hp _
      rw [hps]
      simpa using hp

theorem law_post {C : Cfg} (hC : CfgOK C) (hX : ExtOK C) (hl : laidOutB C.P = true) (hm : mapsRowed C.P = true) (hz : ∀ t e, t < C.P.types.size → C.P.underlying t = some (.slice e) → 0 < C.P.cellsOf e)
    {K : FuncId} {dsD : List D} (hpure : (lim C).pure K dsD = some (B true)) {W : World} {args : Array Value} (hrep : zD (memOf W) noLoc dsD args.toList) (hG : zT C (memOf W))
    {f : Func} {s : ChangeSpec} {apart fresh handsOn again : Bool} {ds gs : List (DataW H)} {before : List MemPlace}
    (hW : DataW.Whole enc C.P f.params.toList s.vars apart W args.toList ds gs before) (hv : s.vars = [])
    (hfn : s.fn H ds = { results := [.lit (.bool true)], args := ds }) {tb : TypeId} (hres : f.resultTypes = #[tb]) (htb : C.P.underlying tb = some .bool)
    (hts : ∀ t ∈ f.params.toList, t < C.P.types.size) :
    Calls C.P K args W fun e W' => ∃ v, e = .returned v ∧ s.post enc C.P f apart fresh handsOn again W args v W' := by
  refine (lim_sound hC hX hpure (memOf W) W args (memOf_ok W) hG hrep).mono ?_
  rintro e W' ⟨v, M', rfl, k1, k2, k3, k4, k5, k6, k7, k8, k9⟩
  simp only [Rep] at k3; subst k3
  have hW' := hW
  obtain ⟨p, q, hA, hVars, rfl, hnf, hnd⟩ := hW'
  rw [hv] at hVars
  obtain ⟨rfl, rfl⟩ : gs = [] ∧ q = [] := by
    cases gs with
    | nil => exact ⟨rfl, hVars⟩
    | cons g gs => cases hVars
  have hlt := hW.lt
  refine ⟨_, rfl, post_same (pa := p) (pv := []) hW ?_ ?_ ?_ rfl ?_ ?_ ?_⟩
  · intro b sp hd
    rw [List.append_nil, hfn, hres]
    refine ⟨[], [], ⟨1, ?_⟩, rfl, rfl⟩
    simp [DataW.trod, htb, Value.cells]
  · intro sp hsp
    rw [List.append_nil, hfn]
    refine trodAll_carry (DataW.TrodAll.respare (T := (· < C.P.types.size)) (kids_rows hl hm) hz hts hA (fun p hp => hsp p (by simpa using hp))) (fun p hp => sameAt_of k8 p (hlt p (by simpa using hp)))
  · intro sp hsp
    rw [List.append_nil, hfn, hv]; rfl
  · refine ⟨k4, k6, fun i hi => ?_⟩
    rw [k8 i hi]
    cases hh : W.heap[i]? with
    | none => trivial
    | some o => cases o <;> simp
  · rintro _ hp b off rfl
    unfold World.frozen?
    rw [k8 b (hlt _ hp)]
  · intro j t r h1 h2
    rw [hres] at h1 h2
    cases j with
    | zero =>
      simp at h1; subst h1
      simp [Value.resultList] at h2; subst h2
      simp [Value.okWide, htb, Cell.okWide, Cell.ok]
    | succ j => simp at h1
end
end Go.VS
/-
  The seat's program: its tables are right; what its arguments stand for. (Printed by go/oq.py, a program of this claim's own; nothing of it is trusted.)
-/
namespace Go.VS
open Go Go.Proofs Go.RowKit Go.ChangeShapes Go.WideShapes
theorem cfgOK : CfgOK cfg where
  ty := fun _ _ h => tyTab_ok.find h
  fn := fun _ _ h => fnTab_ok.find h
  enter := fun _ _ h => enTab_ok.find h
  mixed := by kernel_rfl
  eqok := fun t h => by
    have h1 : (eqTab.find t).isSome = true := h
    cases hf : eqTab.find t with
    | none => rw [hf] at h1; cases h1
    | some u =>
      have := eqTab_ok.find hf
      unfold eqB at this
      simp only [Bool.and_eq_true, Bool.not_eq_true'] at this
      refine ⟨this.1.1, this.1.2, fun fs hfs f hm => ?_⟩
      have h2 := this.2
      have hfs' : Try.prog.underlying t = some (.struct fs) := hfs
      rw [hfs'] at h2
      simp only [List.all_eq_true, bne_iff_ne] at h2
      exact h2 f hm
theorem extOK : ExtOK cfg where
  pure := fun K g args d h => by rw [cfg_ext] at h; cases h
  inl := fun K g args objs nxt d objs' nxt' h => by rw [cfg_xinl] at h; cases h
theorem globOK {M : Mem} : zT cfg M := fun g d h => by cases h
set_option maxRecDepth 100000
theorem laid_out : laidOutB Try.prog = true := by kernel_rfl
theorem maps_rowed : mapsRowed Try.prog = true := by kernel_rfl
theorem sl_full : ∀ t e, t < Try.prog.types.size → Try.prog.underlying t = some (.slice e) → 0 < Try.prog.cellsOf e := slices_full_of Try.prog (by kernel_rfl)
theorem i64_min : IntKind.i64.min = -9223372036854775808 := by rfl
theorem i64_max : IntKind.i64.max = 9223372036854775807 := by rfl
def R64 (n : Int) : Prop := -9223372036854775808 ≤ n ∧ n ≤ 9223372036854775807
section
variable {H : Type} {enc : TypeId × Value → H} {w : World} {base base' : Nat} {sp : Nat → Bool} {held : Bool} {t : TypeId} {v : Value} {d : DataW H} {p : List MemPlace} {r : Reach}
theorem arg_rep (h : DataW.Trod enc Try.prog w base sp held t v d p) (hv : Value.okWide Try.prog w r base' t v) (ht : topT cfg 8 t = true) (hr : rowedT cfg 8 t = true) :
    ∃ ds, zD (memOf w) noLoc ds v.cells.toList ∧ Sh cfg 8 t ds := by
  obtain ⟨n, hn⟩ := h
  exact trod_rep (C := cfg) (fun t ty h => tyTab_ok.find h) 8 n t _ _ hn ht hr (.inl (plain_arg hv))
theorem repL_one {M : Mem} {m : Loc} {d : D} {cs : List Value} (h : zD M m [d] cs) : ∃ v, cs = [v] ∧ Rep M m d v := by
  simp only [zD] at h
  obtain ⟨v, r, h1, h2, rfl⟩ := h
  exact ⟨v, h1, h2⟩
theorem one_cell {x u : Value} (h : x.cells.toList = [u]) (hp : ∀ cs, x ≠ .agg cs) : x = u := by
  cases x <;> simp [Value.cells] at h <;> first | exact h | exact absurd rfl (hp _)
theorem ok_notAgg (hv : Value.okWide Try.prog w r base' t v) (hs : ∀ fs, Try.prog.underlying t ≠ some (.struct fs)) (ha : ∀ n e, Try.prog.underlying t ≠ some (.array n e)) : ∀ cs, v ≠ .agg cs := by
  rintro cs rfl
  unfold Value.okWide at hv
  split at hv
  · rename_i h; exact hs _ h
  · rename_i h; exact ha _ _ h
  · unfold Cell.okWide at hv
    split at hv <;> try (rename_i h1 h2; cases h2; done)
    unfold Cell.ok at hv
    split at hv <;> first | (rename_i h1 h2; cases h2; done) | cases hv
theorem agg_of (hv : Value.okWide Try.prog w r base' t v) (hs : (∃ fs, Try.prog.underlying t = some (.struct fs)) ∨ (∃ n e, Try.prog.underlying t = some (.array n e))) : ∃ cs, v = .agg cs := by
  unfold Value.okWide at hv
  rcases hs with ⟨fs, hs⟩ | ⟨n, e, hs⟩ <;> rw [hs] at hv <;> simp only [] at hv <;> obtain ⟨cs, rfl, _⟩ := hv <;> exact ⟨cs, rfl⟩
end
theorem sh3 {f : Nat} {ds : List D} (h : Sh cfg (f + 1) 3 ds) : ∃ x : Int, ds = [I x] ∧ R64 x := by
  rw [Sh, cfg_ty, cty3] at h
  simp only [ty3] at h
  obtain ⟨n, h1, h2, h3⟩ := h
  rw [i64_min] at h2
  rw [i64_max] at h3
  exact ⟨n, h1, h2, h3⟩
theorem sh24 {f : Nat} {ds : List D} (h : Sh cfg (f + 2) 24 ds) : ∃ x : S_Span, ds = [I x.lo, I x.hi] ∧ True := by
  rw [Sh, cfg_ty, cty24] at h
  simp only [ty24] at h
  obtain ⟨hl, hf⟩ := h
  obtain ⟨t0, q0, z0⟩ := hf (3, 0) (by simp)
  obtain rfl : t0 = ty3 := (Option.some.inj (cty3.symm.trans q0)).symm
  obtain ⟨x0, e0, r0⟩ := sh3 (f := f + 0) z0
  obtain ⟨t1, q1, z1⟩ := hf (3, 1) (by simp)
  obtain rfl : t1 = ty3 := (Option.some.inj (cty3.symm.trans q1)).symm
  obtain ⟨x1, e1, r1⟩ := sh3 (f := f + 0) z1
  rcases ds with _ | ⟨c0, _ | ⟨c1, _ | ⟨y, r⟩⟩⟩
  all_goals simp at hl
  simp [ty3] at e0
  simp [ty3] at e1
  exact ⟨⟨x0, x1⟩, by simp [*], trivial⟩
theorem sh70 {f : Nat} {ds : List D} (h : Sh cfg (f + 3) 70 ds) : ∃ x : S_Item, ds = [I x.now.lo, I x.now.hi, I x.cost, I x.error] ∧ True := by
  rw [Sh, cfg_ty, cty70] at h
  simp only [ty70] at h
  obtain ⟨hl, hf⟩ := h
  obtain ⟨t0, q0, z0⟩ := hf (24, 0) (by simp)
  obtain rfl : t0 = ty24 := (Option.some.inj (cty24.symm.trans q0)).symm
  obtain ⟨x0, e0, r0⟩ := sh24 (f := f + 0) z0
  obtain ⟨t1, q1, z1⟩ := hf (3, 2) (by simp)
  obtain rfl : t1 = ty3 := (Option.some.inj (cty3.symm.trans q1)).symm
  obtain ⟨x1, e1, r1⟩ := sh3 (f := f + 1) z1
  obtain ⟨t2, q2, z2⟩ := hf (3, 3) (by simp)
  obtain rfl : t2 = ty3 := (Option.some.inj (cty3.symm.trans q2)).symm
  obtain ⟨x2, e2, r2⟩ := sh3 (f := f + 1) z2
  rcases ds with _ | ⟨c0, _ | ⟨c1, _ | ⟨c2, _ | ⟨c3, _ | ⟨y, r⟩⟩⟩⟩⟩
  all_goals simp at hl
  simp [ty24] at e0
  simp [ty3] at e1
  simp [ty3] at e2
  exact ⟨⟨x0, x1, x2⟩, by simp [*], trivial⟩
theorem sh22 {f : Nat} {ds : List D} (h : Sh cfg (f + 4) 22 ds) : ∃ x : GS S_Item, ds = [.sl x.nl (x.l.map S_Item.D) (zsl x.nl 4) none] ∧ x.l.length ≤ 9223372036854775807 := by
  rw [Sh, cfg_ty, cty22] at h
  simp only [ty22] at h
  rcases h with h | ⟨els, te, h1, h2, h3, h4⟩
  · exact ⟨GS.nil, h, by simp [GS.nil]⟩
  · obtain rfl : te = ty70 := (Option.some.inj (cty70.symm.trans h1)).symm
    have key : ∀ els : List D, (∀ d ∈ els, Sh cfg (f + 3) 70 d.cells ∧ (ty70.isAgg = true → d = .agg d.cells) ∧ (ty70.isAgg = false → d.cells = [d])) → ∃ l : List S_Item, els = l.map S_Item.D := by
      intro els
      induction els with
      | nil => intro _; exact ⟨[], rfl⟩
      | cons d els ih =>
        intro hd
        obtain ⟨l, hl⟩ := ih fun d' h' => hd d' (List.mem_cons_of_mem _ h')
        obtain ⟨q1, q2, q3⟩ := hd d (by simp)
        obtain ⟨a, e, _⟩ := sh70 (f := f + 0) q1
        have hx : d = S_Item.D a := by rw [q2 rfl, e]; rfl
        exact ⟨a :: l, by rw [List.map_cons, ← hx, ← hl]⟩
    obtain ⟨l, rfl⟩ := key els h4
    refine ⟨GS.some l, h2, ?_⟩
    simp only [List.length_map, maxLen] at h3
    simp only [GS.some]
    omega
theorem sh26 {f : Nat} {ds : List D} (h : Sh cfg (f + 5) 26 ds) : ∃ x : S_Estate, ds = [.sl x.items.nl (x.items.l.map S_Item.D) (zsl x.items.nl 4) none, I x.whole.lo, I x.whole.hi] ∧ x.items.l.length ≤ 9223372036854775807 := by
  rw [Sh, cfg_ty, cty26] at h
  simp only [ty26] at h
  obtain ⟨hl, hf⟩ := h
  obtain ⟨t0, q0, z0⟩ := hf (22, 0) (by simp)
  obtain rfl : t0 = ty22 := (Option.some.inj (cty22.symm.trans q0)).symm
  obtain ⟨x0, e0, r0⟩ := sh22 (f := f + 0) z0
  obtain ⟨t1, q1, z1⟩ := hf (24, 1) (by simp)
  obtain rfl : t1 = ty24 := (Option.some.inj (cty24.symm.trans q1)).symm
  obtain ⟨x1, e1, r1⟩ := sh24 (f := f + 2) z1
  rcases ds with _ | ⟨c0, _ | ⟨c1, _ | ⟨c2, _ | ⟨y, r⟩⟩⟩⟩
  all_goals simp at hl
  simp [ty22] at e0
  simp [ty24] at e1
  exact ⟨⟨x0, x1⟩, by simp [*], r0⟩
theorem sh37 {f : Nat} {ds : List D} (h : Sh cfg (f + 2) 37 ds) : ∃ x : GS Int, ds = [.sl x.nl (x.l.map I) (zsl x.nl 1) none] ∧ x.l.length ≤ 9223372036854775807 := by
  rw [Sh, cfg_ty, cty37] at h
  simp only [ty37] at h
  rcases h with h | ⟨els, te, h1, h2, h3, h4⟩
  · exact ⟨GS.nil, h, by simp [GS.nil]⟩
  · obtain rfl : te = ty3 := (Option.some.inj (cty3.symm.trans h1)).symm
    have key : ∀ els : List D, (∀ d ∈ els, Sh cfg (f + 1) 3 d.cells ∧ (ty3.isAgg = true → d = .agg d.cells) ∧ (ty3.isAgg = false → d.cells = [d])) → ∃ l : List Int, els = l.map I := by
      intro els
      induction els with
      | nil => intro _; exact ⟨[], rfl⟩
      | cons d els ih =>
        intro hd
        obtain ⟨l, hl⟩ := ih fun d' h' => hd d' (List.mem_cons_of_mem _ h')
        obtain ⟨q1, q2, q3⟩ := hd d (by simp)
        obtain ⟨a, e, _⟩ := sh3 (f := f + 0) q1
        have hx : d = I a := by have := (q3 rfl).symm.trans e; simpa using this
        exact ⟨a :: l, by rw [List.map_cons, ← hx, ← hl]⟩
    obtain ⟨l, rfl⟩ := key els h4
    refine ⟨GS.some l, h2, ?_⟩
    simp only [List.length_map, maxLen] at h3
    simp only [GS.some]
    omega
theorem arg3 {H : Type} {enc : TypeId × Value → H} {w : World} {base base' : Nat} {sp : Nat → Bool} {held : Bool} {v : Value} {d : DataW H} {p : List MemPlace} {r : Reach} (h : DataW.Trod enc Try.prog w base sp held 3 v d p) (hv : Value.okWide Try.prog w r base' 3 v) : ∃ x : Int, Rep (memOf w) noLoc (I x) v ∧ R64 x := by
  obtain ⟨ds, h1, h2⟩ := arg_rep h hv (by kernel_rfl) (by kernel_rfl)
  obtain ⟨x, rfl, hx⟩ := sh3 (f := 7) h2
  obtain ⟨u, e, hu⟩ := repL_one h1
  exact ⟨x, by rw [one_cell e (ok_notAgg hv (by rw [Try.underlying3]; simp) (by rw [Try.underlying3]; simp))]; exact hu, hx⟩
theorem arg24 {H : Type} {enc : TypeId × Value → H} {w : World} {base base' : Nat} {sp : Nat → Bool} {held : Bool} {v : Value} {d : DataW H} {p : List MemPlace} {r : Reach} (h : DataW.Trod enc Try.prog w base sp held 24 v d p) (hv : Value.okWide Try.prog w r base' 24 v) : ∃ x : S_Span, Rep (memOf w) noLoc (S_Span.D x) v ∧ True := by
  obtain ⟨ds, h1, h2⟩ := arg_rep h hv (by kernel_rfl) (by kernel_rfl)
  obtain ⟨x, rfl, hx⟩ := sh24 (f := 6) h2
  obtain ⟨cs, rfl⟩ := agg_of hv (.inl ⟨_, Try.underlying24⟩)
  refine ⟨x, ?_, hx⟩
  simp only [Rep, S_Span.D]
  exact ⟨cs, rfl, by simpa [Value.cells] using h1⟩
theorem arg26 {H : Type} {enc : TypeId × Value → H} {w : World} {base base' : Nat} {sp : Nat → Bool} {held : Bool} {v : Value} {d : DataW H} {p : List MemPlace} {r : Reach} (h : DataW.Trod enc Try.prog w base sp held 26 v d p) (hv : Value.okWide Try.prog w r base' 26 v) : ∃ x : S_Estate, Rep (memOf w) noLoc (S_Estate.D x) v ∧ x.items.l.length ≤ 9223372036854775807 := by
  obtain ⟨ds, h1, h2⟩ := arg_rep h hv (by kernel_rfl) (by kernel_rfl)
  obtain ⟨x, rfl, hx⟩ := sh26 (f := 3) h2
  obtain ⟨cs, rfl⟩ := agg_of hv (.inl ⟨_, Try.underlying26⟩)
  refine ⟨x, ?_, hx⟩
  simp only [Rep, S_Estate.D]
  exact ⟨cs, rfl, by simpa [Value.cells] using h1⟩
theorem arg37 {H : Type} {enc : TypeId × Value → H} {w : World} {base base' : Nat} {sp : Nat → Bool} {held : Bool} {v : Value} {d : DataW H} {p : List MemPlace} {r : Reach} (h : DataW.Trod enc Try.prog w base sp held 37 v d p) (hv : Value.okWide Try.prog w r base' 37 v) : ∃ x : GS Int, Rep (memOf w) noLoc (GS.D I 1 x) v ∧ x.l.length ≤ 9223372036854775807 := by
  obtain ⟨ds, h1, h2⟩ := arg_rep h hv (by kernel_rfl) (by kernel_rfl)
  obtain ⟨x, rfl, hx⟩ := sh37 (f := 6) h2
  obtain ⟨u, e, hu⟩ := repL_one h1
  exact ⟨x, by rw [one_cell e (ok_notAgg hv (by rw [Try.underlying37]; simp) (by rw [Try.underlying37]; simp))]; exact hu, hx⟩
end Go.VS
/-
  Orders: OrdersGains answers true. (A text of this claim's own; nothing of it is trusted.)
-/
namespace Go.VS
open Go Go.Proofs
theorem inc_lt : ∀ {p n : Int} {l : List Int}, inc p n l → ∀ x ∈ l, p < x
  | _, _, [], _, x, hx => by cases hx
  | p, n, y :: l, h, x, hx => by
    rcases List.mem_cons.1 hx with rfl | hx
    · exact h.1
    · have := inc_lt h.2.2.2 x hx; have := h.1; omega
theorem inc_head {k n : Int} {l : List Int} (h : inc (k - 1) n l) (hk : k ∈ l) : ∃ l', l = k :: l' ∧ inc k n l' := by
  cases l with
  | nil => cases hk
  | cons x l =>
    rcases List.mem_cons.1 hk with rfl | hk
    · exact ⟨l, rfl, h.2.2.2⟩
    · have := inc_lt h.2.2.2 k hk; have := h.1; omega
theorem inc_up {k n : Int} {l : List Int} (h : inc (k - 1) n l) (hk : k ∉ l) : inc k n l := by
  cases l with
  | nil => trivial
  | cons x l =>
    have h1 := h.1
    have : k ≠ x := fun hh => hk (by rw [hh]; exact List.mem_cons_self)
    exact ⟨by omega, h.2.1, h.2.2.1, h.2.2.2⟩
theorem gains12 {items : GS Int} {n : Int} {F : Int → Int} : ∀ (G : List Int) (k : Nat) (l : List Int) (a b : Int), inc ((k : Int) - 1) n l → (∀ j : Int, (k : Int) ≤ j → (j ∈ items.l ↔ j ∈ l)) → (∀ i ∈ l, i < (k : Int) + (G.length : Int)) → (∀ (j : Nat) (x : Int), G[j]? = some x → x = F ((k : Int) + (j : Int)) ∧ 0 ≤ x ∧ x ≤ 1073741824) →
    0 ≤ a → 0 ≤ b → a + 1073741824 * (G.length : Int) ≤ 4611686018427387904 → b + 1073741824 * (G.length : Int) ≤ 4611686018427387904 →
    l_OrdersGains_12 items G k a b = .x0 (a + tot (l.map F)) (b + tot G) ∧ l_OrdersGains_12p1 items G k a b = .x0 (a + tot (l.map F)) (b + tot G)
  | [], k, l, a, b, hi, _, hl, _, _, _, _, _ => by
    have : l = [] := by
      cases l with
      | nil => rfl
      | cons x l => have := hl x List.mem_cons_self; have := hi.1; simp at *; omega
    subst this
    simp [l_OrdersGains_12, l_OrdersGains_12p1, tot]
  | g :: G, k, l, a, b, hi, hm, hl, hG, h0, h1, h2, h3 => by
    obtain ⟨e1, e2, e3⟩ := hG 0 g rfl
    simp only [List.length_cons] at h2 h3
    have hG' : ∀ (j : Nat) (x : Int), G[j]? = some x → x = F (((k + 1 : Nat) : Int) + (j : Int)) ∧ 0 ≤ x ∧ x ≤ 1073741824 := by
      intro j x hx
      have := hG (j + 1) x (by simpa using hx)
      rw [show (k : Int) + ((j + 1 : Nat) : Int) = ((k + 1 : Nat) : Int) + (j : Int) by omega] at this
      exact this
    have ek : (((k + 1 : Nat) : Int)) - 1 = (k : Int) := by omega
    have e1' : g = F (k : Int) := by rw [e1]; exact congrArg F (by omega)
    unfold l_OrdersGains_12 l_OrdersGains_12p1
    rw [decide_eq_false (by omega : ¬ g < 0), contains_eq]
    simp only [cond_false]
    by_cases hk : (k : Int) ∈ l
    · obtain ⟨l', rfl, hi'⟩ := inc_head hi hk
      rw [decide_eq_true ((hm k (by omega)).2 hk)]
      simp only [cond_true]
      rw [w64_eq (by omega) (by omega), w64_eq (by omega) (by omega)]
      obtain ⟨q1, q2⟩ := gains12 (items := items) (n := n) (F := F) G (k + 1) l' (a + g) (b + g) (by rw [ek]; exact hi') (fun j hj => by
        rw [hm j (by omega), List.mem_cons]
        exact ⟨fun hh => hh.resolve_left (by omega), fun hh => .inr hh⟩) (fun i hil => by have := hl i (List.mem_cons_of_mem _ hil); simp only [List.length_cons] at this; omega) hG' (by omega) (by omega) (by omega) (by omega)
      rw [q1, q2]
      simp only [List.map_cons, tot, ← e1']
      have z1 : a + g + tot (l'.map F) = a + (g + tot (l'.map F)) := by omega
      have z2 : b + g + tot G = b + (g + tot G) := by omega
      rw [z1, z2]
      exact ⟨rfl, rfl⟩
    · rw [decide_eq_false (fun hh => hk ((hm k (by omega)).1 hh))]
      simp only [cond_false]
      rw [w64_eq (by omega) (by omega)]
      obtain ⟨q1, q2⟩ := gains12 (items := items) (n := n) (F := F) G (k + 1) l a (b + g) (by rw [ek]; exact inc_up hi hk) (fun j hj => hm j (by omega)) (fun i hil => by have := hl i hil; simp only [List.length_cons] at this; omega) hG' (by omega) (by omega) (by omega) (by omega)
      rw [q1, q2]
      simp only [tot]
      have z2 : b + g + tot G = b + (g + tot G) := by omega
      rw [z2]
      exact ⟨rfl, rfl⟩
theorem gains_true (e : S_Estate) (items : GS Int) (width : Int) (hL : items.l.length ≤ 9223372036854775807) : l_OrdersGains e items width = true := by
  unfold l_OrdersGains
  cases hv : r_Valid e with
  | false => rfl
  | true =>
    have h := valid_iff.1 hv
    cases hr : r_Right e items with
    | false => rfl
    | true =>
      have hi := (rright_iff hL).1 hr
      simp only [cond_true]
      by_cases hw : width < 0
      · rw [decide_eq_true hw]; rfl
      rw [decide_eq_false hw]
      obtain ⟨m, h1, h2, h3⟩ := need_eq h (width := width) (by omega)
      have hg := gs_range h hi
      have hW := h3 _ hg.1 hg.2
      obtain ⟨k1, k2⟩ := gainsF_eq h
      have hn := h.n2
      have hlen : (Gl e).length = e.items.l.length := by unfold Gl; rw [List.length_map]
      have hG : ∀ (j : Nat) (x : Int), (Gl e)[j]? = some x → x = gn (e.items.at (((0 : Nat) : Int) + (j : Int))) ∧ 0 ≤ x ∧ x ≤ 1073741824 := by
        intro j x hx
        have hj : j < e.items.l.length := by
          rcases Nat.lt_or_ge j (Gl e).length with hh | hh
          · omega
          · rw [List.getElem?_eq_none hh] at hx; cases hx
        have e1 : e.items.at (((0 : Nat) : Int) + (j : Int)) = e.items.l[j] := by
          simp only [GS.at, List.getD_eq_getElem?_getD]
          rw [show (((0 : Nat) : Int) + (j : Int)).toNat = j by omega, List.getElem?_eq_getElem hj]; rfl
        have e2 : x = gn e.items.l[j] := by
          simp only [Gl, List.getElem?_map, List.getElem?_eq_getElem hj] at hx
          simpa using hx.symm
        have hk := h.it e.items.l[j] (List.getElem_mem hj)
        have hb := gn_bd hk
        have := hk.1; have := hk.2.2.1
        rw [e1]
        exact ⟨e2, by omega, by omega⟩
      obtain ⟨q1, q2⟩ := gains12 (items := items) (n := (e.items.l.length : Int)) (F := fun i => gn (e.items.at i)) (Gl e) 0 items.l 0 0 (by simpa using hi) (fun j _ => Iff.rfl) (fun i hil => by have := (inc_mem hi i hil).2; omega) hG (by omega) (by omega) (by omega) (by omega)
      have d1 : decide (m < 0) = false := decide_eq_false (by omega)
      have d2 : (((((ze e).1).l.length : Nat) : Int) != ((e.items.l.length : Nat) : Int)) = false := by rw [k2, hlen]; exact bne_self_eq_false _
      rw [d2]
      simp only [h1, worst_eq h hL hi, k1, bne_self_eq_false, cond_false, d1, k2, q1, q2, Int.zero_add]
      have eg : tot (items.l.map (fun i => gn (e.items.at i))) = tot (gs e items.l) := rfl
      rw [eg]
      by_cases c1 : Wg e (tot (gs e items.l)) ≤ width
      · have c2 := hW.1 c1
        rw [decide_eq_true c1, decide_eq_true (by omega : tot (gs e items.l) ≥ m)]
        cases decide (tot (Gl e) ≥ m) <;> rfl
      · have c2 : ¬ tot (gs e items.l) ≥ m := fun hh => c1 (hW.2 hh)
        rw [decide_eq_false c1, decide_eq_false c2]
        cases decide (tot (Gl e) ≥ m) <;> rfl
theorem law_gains (e : S_Estate) (items : GS Int) (width : Int) : e.items.l.length ≤ 9223372036854775807 → items.l.length ≤ 9223372036854775807 → R64 width → (lim cfg).pure 9 [S_Estate.D e, GS.D I 1 items, I width] = some (B true) := fun _ h _ => by
  rw [T_l_OrdersGains e items width h, gains_true e items width h]
end Go.VS
