/- Nothing of a statement is proved in this text alone: it is part 4 of the proof's own tools, an evaluator of the code over deep values, its soundness, and what it makes of this seat's functions. Conditions: none beyond the statement's own. -/
import Derived.Test.YtpkjnefhnedfdaaGreatDoorVsRCElem3
set_option linter.unusedSimpArgs false
set_option linter.unusedVariables false
/-
  Ranges: what Check, Has, Size, Hull, Next and Near say of sets. (A text of this claim's own; nothing of it is trusted.)
-/
namespace Go.VS
open Go
set_option maxHeartbeats 0
theorem in_iff {n lo hi : Int} : ranges_in n lo hi = true ↔ lo ≤ n ∧ n ≤ hi := by
  unfold ranges_in
  simp only [Bool.cond_eq_ite, decide_eq_true_eq]
  constructor
  · intro h
    split at h
    · split at h
      · omega
      · cases h
    · cases h
  · intro h
    rw [if_pos (by omega), if_pos (by omega)]
def Ar (n : Int) : Prop := -1099511627776 ≤ n ∧ n ≤ 1099511627776
theorem area_iff {n : Int} : zm n = true ↔ Ar n := by
  unfold zm Ar
  rw [← in_iff]
  cases ranges_in n (-1099511627776) 1099511627776 <;> simp
theorem area_no {n : Int} : zm n = false ↔ ¬ Ar n := by rw [← area_iff]; simp
theorem at_of' {r : GS S_Span} {x : S_Span} {rest : List S_Span} {i : Nat} (h : r.l.drop i = x :: rest) : r.at (i : Int) = x := by
  have hx : r.l[i]? = Option.some x := by rw [← List.head?_drop, h]; rfl
  show r.l.getD ((i : Int)).toNat default = x
  rw [Int.toNat_natCast, List.getD_eq_getElem?_getD, hx]; rfl
/-- Spans in order behind a number, bounded. -/
def chn : Option Int → List S_Span → Prop
  | _, [] => True
  | p, s :: l => s.lo ≤ s.hi ∧ Ar s.lo ∧ Ar s.hi ∧ (∀ h, p = some h → h + 1 < s.lo) ∧ chn (some s.hi) l
theorem chn_iff : ∀ {l : List S_Span} {p : Option Int}, chn p l ↔ cn l ∧ bd l ∧ ∀ h, p = some h → ∀ t ∈ l, h + 1 < t.lo
  | [], p => ⟨fun _ => ⟨trivial, (fun s hs => by cases hs), (fun h _ t ht => by cases ht)⟩, fun _ => trivial⟩
  | s :: l, p => by
    simp only [chn]
    rw [chn_iff (l := l) (p := some s.hi)]
    constructor
    · rintro ⟨h1, h2, h3, h4, h5, h6, h7⟩
      refine ⟨⟨h1, h7 s.hi rfl, h5⟩, fun t ht => ?_, fun h hp t ht => ?_⟩
      · rcases List.mem_cons.1 ht with rfl | ht
        · exact ⟨h2.1, h2.2, h3.1, h3.2⟩
        · exact h6 t ht
      · rcases List.mem_cons.1 ht with rfl | ht
        · exact h4 h hp
        · have := h4 h hp; have := h7 s.hi rfl t ht; omega
    · rintro ⟨⟨h1, h2, h3⟩, h4, h5⟩
      have hs := h4 s List.mem_cons_self
      exact ⟨h1, ⟨hs.1, hs.2.1⟩, ⟨hs.2.2.1, hs.2.2.2⟩, fun h hp => h5 h hp s List.mem_cons_self, h3, fun t ht => h4 t (List.mem_cons_of_mem _ ht), (fun h hp t ht => by cases hp; exact h2 t ht)⟩
theorem ok_chn {l : List S_Span} : Ok l ↔ chn none l ∧ l.length ≤ 64 := by
  rw [chn_iff]
  exact ⟨fun h => ⟨⟨h.1, h.2.1, (fun h hp => by cases hp)⟩, h.2.2⟩, fun h => ⟨h.1.1, h.1.2.1, h.2⟩⟩
def prv (r : GS S_Span) (i : Nat) : Option Int := if i = 0 then none else some (r.at ((i : Int) - 1)).hi
theorem check4 (r : GS S_Span) : ∀ (l : List S_Span) (i : Nat), r.l.drop i = l → i + l.length ≤ 64 → (∀ h, prv r i = some h → Ar h) → (ranges_Check_4 r l i = .x0 ↔ chn (prv r i) l)
  | [], i, _, _, _ => by simp [ranges_Check_4, chn]
  | x :: l, i, hd, hi, hp => by
    have hx := at_of' hd
    unfold ranges_Check_4
    simp only [chn]
    have hn : prv r (i + 1) = some x.hi := by
      unfold prv
      rw [if_neg (by omega), show ((i + 1 : Nat) : Int) - 1 = (i : Int) from by omega, hx]
    cases h1 : decide (x.lo > x.hi) with
    | true => have := of_decide_eq_true h1; simp; intro; omega
    | false =>
      have h1 := of_decide_eq_false h1
      cases h2 : zm x.lo with
      | false => have := area_no.1 h2; simp [this]
      | true =>
        have h2 := area_iff.1 h2
        cases h3 : zm x.hi with
        | false => have := area_no.1 h3; simp [this]
        | true =>
          have h3 := area_iff.1 h3
          have hil : i < 64 := by simp only [List.length_cons] at hi; omega
          have ih := check4 r l (i + 1) (zp hd) (by simp only [List.length_cons] at hi; omega) (fun h hh => by rw [hn] at hh; cases hh; exact h3)
          rw [hn] at ih
          simp only [cond_false, cond_true]
          by_cases h0 : i = 0
          · subst h0
            rw [decide_eq_false (by omega), cond_false, ih]
            simp only [prv, if_true]
            exact ⟨fun h => ⟨by omega, h2, h3, fun _ hh => (by cases hh), h⟩, fun h => h.2.2.2.2⟩
          · have e : prv r i = some (r.at ((i : Int) - 1)).hi := by unfold prv; rw [if_neg h0]
            have ha := hp _ e
            rw [decide_eq_true (by omega : ((i : Nat) : Int) > 0), cond_true, w64_eq (n := ((i : Nat) : Int) - 1) (by omega) (by omega), e]
            unfold Ar at ha
            rw [w64_eq (by omega) (by omega)]
            cases h4 : decide ((r.at ((i : Int) - 1)).hi + 1 ≥ x.lo) with
            | true =>
              have := of_decide_eq_true h4
              simp only [cond_true]
              exact ⟨fun h => (by cases h), fun h => by have := h.2.2.2.1 _ rfl; omega⟩
            | false =>
              have := of_decide_eq_false h4
              simp only [cond_false]
              rw [ih]
              exact ⟨fun h => ⟨by omega, h2, h3, fun _ hh => (by cases hh; omega), h⟩, fun h => h.2.2.2.2⟩
theorem check_iff {r : GS S_Span} : zg r = 0 ↔ Ok r.l := by
  rw [ok_chn]
  unfold zg
  cases h : decide (((r.l.length : Nat) : Int) > 64) with
  | true => have := of_decide_eq_true h; simp only [cond_true]; exact ⟨fun h => (by cases h), fun h => by have := h.2; omega⟩
  | false =>
    have h := of_decide_eq_false h
    have k := check4 r r.l 0 (List.drop_zero) (by omega) (fun h hh => by cases hh)
    have e : prv r 0 = none := rfl
    rw [e] at k
    simp only [cond_false]
    rw [← k]
    cases ranges_Check_4 r r.l 0 <;> simp <;> omega
theorem check_20 {r : GS S_Span} (h : ¬ Ok r.l) : zg r = 20 := by
  rw [← check_iff] at h
  unfold zg at h ⊢
  cases hd : decide (((r.l.length : Nat) : Int) > 64) with
  | true => rfl
  | false =>
    rw [hd] at h
    simp only [cond_false] at h ⊢
    cases hh : ranges_Check_4 r r.l 0 <;> rw [hh] at h <;> simp at h ⊢
theorem valid4 (r : GS S_Span) : ∀ (l : List S_Span) (i : Nat), r.l.drop i = l → i + l.length ≤ 64 → (∀ h, prv r i = some h → Ar h) → (r_Valid_4 r l i = .x0 ↔ chn (prv r i) l)
  | [], i, _, _, _ => by simp [r_Valid_4, chn]
  | x :: l, i, hd, hi, hp => by
    have hx := at_of' hd
    have hil : i < 64 := by simp only [List.length_cons] at hi; omega
    unfold r_Valid_4
    simp only [chn]
    have hn : prv r (i + 1) = some x.hi := by
      unfold prv
      rw [if_neg (by omega), show ((i + 1 : Nat) : Int) - 1 = (i : Int) from by omega, hx]
    cases h1 : decide (x.lo > x.hi) with
    | true => have := of_decide_eq_true h1; simp; intro; omega
    | false =>
      have h1 := of_decide_eq_false h1
      cases h2 : decide (x.lo < -1099511627776) with
      | true => have := of_decide_eq_true h2; simp [Ar]; intros; omega
      | false =>
        have h2 := of_decide_eq_false h2
        cases h3 : decide (x.hi > 1099511627776) with
        | true => have := of_decide_eq_true h3; simp [Ar]; intros; omega
        | false =>
          have h3 := of_decide_eq_false h3
          have a1 : Ar x.lo := ⟨by omega, by omega⟩
          have a2 : Ar x.hi := ⟨by omega, by omega⟩
          have ih := valid4 r l (i + 1) (zp hd) (by simp only [List.length_cons] at hi; omega) (fun h hh => by rw [hn] at hh; cases hh; exact a2)
          rw [hn] at ih
          simp only [cond_false]
          by_cases h0 : i = 0
          · subst h0
            rw [decide_eq_false (by omega), cond_false, ih]
            simp only [prv, if_true]
            exact ⟨fun h => ⟨by omega, a1, a2, fun _ hh => (by cases hh), h⟩, fun h => h.2.2.2.2⟩
          · have e : prv r i = some (r.at ((i : Int) - 1)).hi := by unfold prv; rw [if_neg h0]
            have ha := hp _ e
            rw [decide_eq_true (by omega : ((i : Nat) : Int) > 0), cond_true, w64_eq (n := ((i : Nat) : Int) - 1) (by omega) (by omega), e]
            unfold Ar at ha
            rw [w64_eq (by omega) (by omega)]
            cases h4 : decide ((r.at ((i : Int) - 1)).hi + 1 ≥ x.lo) with
            | true =>
              have := of_decide_eq_true h4
              simp only [cond_true]
              exact ⟨fun h => (by cases h), fun h => by have := h.2.2.2.1 _ rfl; omega⟩
            | false =>
              have := of_decide_eq_false h4
              simp only [cond_false]
              rw [ih]
              exact ⟨fun h => ⟨by omega, a1, a2, fun _ hh => (by cases hh; omega), h⟩, fun h => h.2.2.2.2⟩
theorem valid_iff {r : GS S_Span} : zF r = true ↔ Ok r.l := by
  rw [ok_chn]
  unfold zF
  cases h : decide (((r.l.length : Nat) : Int) > 64) with
  | true => have := of_decide_eq_true h; simp only [cond_true]; exact ⟨fun h => (by cases h), fun h => by have := h.2; omega⟩
  | false =>
    have h := of_decide_eq_false h
    have k := valid4 r r.l 0 (List.drop_zero) (by omega) (fun h hh => by cases hh)
    have e : prv r 0 = none := rfl
    rw [e] at k
    simp only [cond_false]
    rw [← k]
    cases r_Valid_4 r r.l 0 <;> simp <;> omega
theorem valid_no {r : GS S_Span} : zF r = false ↔ ¬ Ok r.l := by rw [← valid_iff]; simp
theorem check_valid (r : GS S_Span) : zg r = bif zF r then 0 else 20 := by
  cases h : zF r with
  | true => exact check_iff.2 (valid_iff.1 h)
  | false => exact check_20 (valid_no.1 h)
theorem same_check (r : GS S_Span) : zg r = r_Check r := by rw [check_valid]; rfl
theorem same4 (b : GS S_Span) : ∀ (l : List S_Span) (i : Nat), i + l.length = b.l.length → (r_Same_4 b l i = .x0 ↔ l = b.l.drop i)
  | [], i, h => by
    have : b.l.drop i = [] := List.drop_eq_nil_iff.2 (by simp at h; omega)
    simp [r_Same_4, this]
  | x :: l, i, h => by
    simp only [List.length_cons] at h
    have hlt : i < b.l.length := by omega
    have hd : b.l.drop i = b.l[i] :: b.l.drop (i + 1) := List.drop_eq_getElem_cons hlt
    have hx := at_of' hd
    unfold r_Same_4
    rw [hx, hd]
    have ih := same4 b l (i + 1) (by omega)
    generalize b.l[i] = y at *
    obtain ⟨x0, x1⟩ := x
    obtain ⟨y0, y1⟩ := y
    simp only [Bool.and_true, List.cons.injEq, S_Span.mk.injEq]
    by_cases e0 : x0 = y0
    · by_cases e1 : x1 = y1
      · subst e0 e1
        simp only [beq_self_eq_true, Bool.and_self, Bool.not_true, cond_false, and_self, true_and]
        exact ih
      · have : (x1 == y1) = false := by simp [e1]
        rw [this, Bool.and_false, Bool.not_false, cond_true]
        exact ⟨fun h => (by cases h), fun h => absurd h.1.2 e1⟩
    · have : (x0 == y0) = false := by simp [e0]
      rw [this, Bool.false_and, Bool.not_false, cond_true]
      exact ⟨fun h => (by cases h), fun h => absurd h.1.1 e0⟩
theorem same_iff {a b : GS S_Span} : r_Same a b = true ↔ a.l = b.l := by
  unfold r_Same
  by_cases hl : a.l.length = b.l.length
  · have : (((a.l.length : Nat) : Int) != ((b.l.length : Nat) : Int)) = false := by simp [hl]
    rw [this]
    have k := same4 b a.l 0 (by omega)
    rw [List.drop_zero] at k
    simp only [cond_false]
    rw [← k]
    cases r_Same_4 b a.l 0 <;> simp
  · have : (((a.l.length : Nat) : Int) != ((b.l.length : Nat) : Int)) = true := by simp; omega
    rw [this]
    simp only [cond_true]
    exact ⟨fun h => (by cases h), fun h => absurd (congrArg List.length h) hl⟩
theorem same_refl {a b : GS S_Span} (h : a.l = b.l) : r_Same a b = true := same_iff.2 h
/-! ### Has, Size, Hull, Next, Near -/
end Go.VS

namespace Go.VS
open Go Go.Proofs
set_option maxHeartbeats 0
set_option linter.unusedSimpArgs false
set_option linter.unusedVariables false
theorem add_some {n m k : Nat} {lo hi : Int} (h : (n + 1) * k ≤ m) : (n + (zv lo hi).l.length) * k ≤ m := Nat.le_trans (Nat.mul_le_mul_right k (Nat.add_le_add_left (some1 lo hi) n)) h
theorem add_some' {n m : Nat} {lo hi : Int} (h : n + 1 ≤ m) : n + (zv lo hi).l.length ≤ m := Nat.le_trans (Nat.add_le_add_left (some1 lo hi) n) h
theorem one_some {m k : Nat} {lo hi : Int} (h : 1 * k ≤ m) : (zv lo hi).l.length * k ≤ m := Nat.le_trans (Nat.mul_le_mul_right k (some1 lo hi)) h
theorem one_some' {m : Nat} {lo hi : Int} (h : 1 ≤ m) : (zv lo hi).l.length ≤ m := Nat.le_trans (some1 lo hi) h

inductive LR_ranges_outside_4 where
  | x0 (zQ : List S_Span) (va4_1 : Int)
  | x1 (v4_0 : Int)
instance : Inhabited LR_ranges_outside_4 := ⟨.x0 default default⟩
def ranges_outside_4a : List S_Span → (List S_Span) → Int → LR_ranges_outside_4
  | [], zQ, va4_1 => .x0 zQ va4_1
  | x4 :: zR, zQ, va4_1 =>
    bif ((zv va4_1 (w64 (x4.lo - 1))).l).isEmpty then
      ranges_outside_4a zR zQ (w64 (x4.hi + 1))
    else
      ranges_outside_4a zR (zQ ++ ((zv va4_1 (w64 (x4.lo - 1))).l)) (w64 (x4.hi + 1))
def ranges_outside_4 : List S_Span → Int → LR_ranges_outside_4
  | [], v4_0 => .x1 v4_0
  | x4 :: zR, v4_0 =>
    bif ((zv v4_0 (w64 (x4.lo - 1))).l).isEmpty then
      ranges_outside_4 zR (w64 (x4.hi + 1))
    else
      ranges_outside_4a zR ((zv v4_0 (w64 (x4.lo - 1))).l) (w64 (x4.hi + 1))
def ranges_outside (r : GS S_Span) : (GS S_Span) :=
  match ranges_outside_4 r.l (-1099511627776) with
  | .x0 zQ va4_1 =>
    bif ((zv va4_1 1099511627776).l).isEmpty then
      GS.some zQ
    else
      GS.some (zQ ++ ((zv va4_1 1099511627776).l))
  | .x1 v4_0 =>
    bif ((zv v4_0 1099511627776).l).isEmpty then
      GS.nil
    else
      GS.some ((zv v4_0 1099511627776).l)

end Go.VS

namespace Go.VS
open Go Go.Proofs
set_option maxHeartbeats 0
set_option linter.unusedSimpArgs false
set_option linter.unusedVariables false
end Go.VS

namespace Go.VS
open Go Go.Proofs
set_option maxHeartbeats 0
set_option linter.unusedSimpArgs false
set_option linter.unusedVariables false
end Go.VS

/-
  Ranges: what lies outside. (A text of this claim's own; nothing of it is trusted.)
-/
namespace Go.VS
open Go
set_option maxHeartbeats 0
theorem some_l (lo hi : Int) : (zv lo hi).l = someS lo hi := by
  unfold zv someS
  by_cases h : lo > hi
  · rw [decide_eq_true h, if_pos h]; rfl
  · rw [decide_eq_false h, if_neg h]; rfl
theorem emp_app {α : Type} {v l : List α} {β : Type} (f : List α → β) : (bif l.isEmpty then f v else f (v ++ l)) = f (v ++ l) := by
  cases l <;> simp
theorem out4a_len : ∀ (l v : List S_Span) (f : Int), ∃ v' f', ranges_outside_4a l v f = .x0 v' f' ∧ v'.length ≤ v.length + l.length
  | [], v, f => ⟨v, f, rfl, Nat.le_refl _⟩
  | x :: l, v, f => by
    unfold ranges_outside_4a
    rw [emp_app (fun z => ranges_outside_4a l z (w64 (x.hi + 1)))]
    obtain ⟨v', f', e, h⟩ := out4a_len l (v ++ (zv f (w64 (x.lo - 1))).l) (w64 (x.hi + 1))
    refine ⟨v', f', e, ?_⟩
    have := some1 f (w64 (x.lo - 1))
    simp only [List.length_append, List.length_cons] at h ⊢
    omega
theorem out4_len : ∀ (l : List S_Span) (f : Int), (∃ v' f', ranges_outside_4 l f = .x0 v' f' ∧ v'.length ≤ l.length) ∨ ∃ f', ranges_outside_4 l f = .x1 f'
  | [], f => .inr ⟨f, rfl⟩
  | x :: l, f => by
    unfold ranges_outside_4
    cases he : ((zv f (w64 (x.lo - 1))).l).isEmpty with
    | true =>
      rcases out4_len l (w64 (x.hi + 1)) with ⟨v', f', e, h⟩ | ⟨f', e⟩
      · exact .inl ⟨v', f', e, by simp only [List.length_cons]; omega⟩
      · exact .inr ⟨f', e⟩
    | false =>
      obtain ⟨v', f', e, h⟩ := out4a_len l ((zv f (w64 (x.lo - 1))).l) (w64 (x.hi + 1))
      have := some1 f (w64 (x.lo - 1))
      exact .inl ⟨v', f', e, by simp only [List.length_cons]; omega⟩
theorem outsideLen (r : GS S_Span) (h : r.l.length ≤ 64) : (ranges_outside r).l.length ≤ 65 := by
  unfold ranges_outside
  rcases out4_len r.l (-1099511627776) with ⟨v', f', e, h'⟩ | ⟨f', e⟩ <;> rw [e] <;> dsimp only
  · have := some1 f' 1099511627776
    cases ((zv f' 1099511627776).l).isEmpty <;> simp [GS.some] <;> omega
  · have := some1 f' 1099511627776
    cases ((zv f' 1099511627776).l).isEmpty <;> simp [GS.some, GS.nil] <;> omega
end Go.VS

namespace Go.VS
open Go Go.Proofs
set_option maxHeartbeats 0
set_option linter.unusedSimpArgs false
set_option linter.unusedVariables false
theorem zA (r : GS S_Span) (h : r.l.length ≤ 64) : (ranges_outside r).l.length ≤ 65 := outsideLen r h

end Go.VS

namespace Go.VS
open Go Go.Proofs
set_option maxHeartbeats 0
set_option linter.unusedSimpArgs false
set_option linter.unusedVariables false
theorem zadd_rw {x : Nat} (h : x ≤ 9223372036854775807) : I (w64 (0 + ((x : Nat) : Int))) = I ((x : Nat) : Int) := by
  congr 1; unfold w64; rw [IntKind.wrap_i64]; omega
end Go.VS

namespace Go.VS
open Go Go.Proofs
set_option maxHeartbeats 0
set_option linter.unusedSimpArgs false
set_option linter.unusedVariables false
def cutG {α : Type} (s : GS α) (lo hi : Nat) : GS α := GS.some ((s.l.take hi).drop lo)
theorem zd {α : Type} (s : GS α) (lo hi : Nat) : (cutG s lo hi).l.length = min hi s.l.length - lo := by
  unfold cutG; rw [GS.some_l, List.length_drop, List.length_take]
theorem cut_sub {α : Type} (s : GS α) (lo hi : Nat) : ∀ x ∈ (cutG s lo hi).l, x ∈ s.l := fun x hx => by
  unfold cutG at hx
  rw [GS.some_l] at hx
  exact List.mem_of_mem_take (List.mem_of_mem_drop hx)
section
variable {α : Type} {C : Cfg} {objs : List (Nat × Ob)} {t e : TypeId} {ty te : Ty} {f : α → VS.D} {sz nxt k : Nat} {s : GS α}
theorem slice_hi (h1 : C.ty t = some ty) (h2 : ty.kind = .slice e) (h3 : C.ty e = some te) (h4 : te.size = sz) (hk : k ≤ s.l.length) (hp : 0 < s.l.length) : evSlice C objs nxt t (GS.D f sz s) none (some (I ((k : Nat) : Int))) none = some ⟨GS.D f sz (cutG s 0 k), [], [], nxt⟩ := by
  have hn : s.nl = false := nonnil (fun h => by rw [h] at hp; simp at hp)
  subst h4
  unfold GS.D
  rw [hn]
  simp [evSlice, optBound, boundD, I, sliceOf, h1, h2, h3, slSlice, zsl, cutG, GS.some, hk, capBehind, rdOf, List.map_take]
theorem slice_lo (h1 : C.ty t = some ty) (h2 : ty.kind = .slice e) (h3 : C.ty e = some te) (h4 : te.size = sz) (hk : k ≤ s.l.length) (hp : 0 < s.l.length) : evSlice C objs nxt t (GS.D f sz s) (some (I ((k : Nat) : Int))) none none = some ⟨GS.D f sz (cutG s k s.l.length), [], [], nxt⟩ := by
  have hn : s.nl = false := nonnil (fun h => by rw [h] at hp; simp at hp)
  subst h4
  unfold GS.D
  rw [hn]
  simp [evSlice, optBound, boundD, I, sliceOf, h1, h2, h3, slSlice, zsl, cutG, GS.some, hk, capBehind, rdOf, List.map_drop]
  rw [List.take_of_length_le (by simp)]
end
theorem half_rw {x : Nat} (h : x ≤ 9223372036854775807) : I (w64 (((x : Nat) : Int).tdiv 2)) = I ((x / 2 : Nat) : Int) := by
  congr 1
  have e : ((x : Nat) : Int).tdiv 2 = ((x / 2 : Nat) : Int) := rfl
  rw [e, w64_eq (by omega) (by omega)]

noncomputable def lp75_8 : Code := subC [1, 1, 1, 1, 1, 1, 1, 0, 0, 0] (bodyC Tryz.f75)

def sd20285 (zO : GS S_Span) (zP : GS S_Span) (zJ : List S_Span) (zK : Int) (zN : Int) : St := ⟨107, [(101, .lref 0 ((w64 (((zJ.length : Nat) : Int) - 1)).toNat) 2 1), (100, .lref 0 ((w64 (((zJ.length : Nat) : Int) - 1)).toNat) 2 0), (99, I (zC ((zJ.getD ((w64 (((zJ.length : Nat) : Int) - 1)).toNat) default).hi) ((GS.at zO zK).hi))), (98, I ((GS.at zO zK).hi)), (97, .lref 1 0 2 1), (96, I ((zJ.getD ((w64 (((zJ.length : Nat) : Int) - 1)).toNat) default).hi)), (95, .lref 0 ((w64 (((zJ.length : Nat) : Int) - 1)).toNat) 2 1), (94, .lref 0 ((w64 (((zJ.length : Nat) : Int) - 1)).toNat) 2 0), (93, I (w64 (((zJ.length : Nat) : Int) - 1))), (92, I ((zJ.length : Nat) : Int)), (91, .lsl 0 0 zJ.length 2 none), (90, I (w64 (((zJ.length : Nat) : Int) - 1))), (89, I ((zJ.length : Nat) : Int)), (88, .lsl 0 0 zJ.length 2 none), (87, B true), (86, B true), (85, I (w64 (((zJ.getD ((w64 (((zJ.length : Nat) : Int) - 1)).toNat) default).hi) + 1))), (84, I ((zJ.getD ((w64 (((zJ.length : Nat) : Int) - 1)).toNat) default).hi)), (83, .lref 0 ((w64 (((zJ.length : Nat) : Int) - 1)).toNat) 2 1), (82, .lref 0 ((w64 (((zJ.length : Nat) : Int) - 1)).toNat) 2 0), (81, I (w64 (((zJ.length : Nat) : Int) - 1))), (80, I ((zJ.length : Nat) : Int)), (79, .lsl 0 0 zJ.length 2 none), (78, I ((GS.at zO zK).lo)), (77, .lref 1 0 2 0), (76, B true), (75, B true), (74, I ((zJ.length : Nat) : Int)), (9, I ((zJ.length : Nat) : Int)), (73, I ((zJ.length : Nat) : Int)), (72, .lsl 0 0 zJ.length 2 none), (6, I (w64 (zK + 1))), (65, I (w64 (zK + 1))), (64, I zK), (63, .agg [I ((GS.at zO zK).lo), I ((GS.at zO zK).hi)]), (62, .ptr (.agg [I ((GS.at zO zK).lo), I ((GS.at zO zK).hi)])), (61, I zK), (60, .sl zO.nl (zO.l.map S_Span.D) (zsl zO.nl 2) none), (59, B true), (58, .tup []), (57, .tup []), (56, .tup []), (55, .tup []), (54, .tup []), (53, .tup []), (52, .tup []), (51, .tup []), (50, .tup []), (49, .tup []), (48, .tup []), (47, .tup []), (46, .tup []), (45, .tup []), (44, .tup []), (43, .tup []), (42, .tup []), (41, B true), (40, B true), (39, I ((zP.l.length : Nat) : Int)), (38, .sl zP.nl (zP.l.map S_Span.D) (zsl zP.nl 2) none), (37, I zN), (8, .lref 1 0 2 0), (36, .agg [I 0, I 0]), (35, B true), (34, .tup []), (33, .tup []), (32, .tup []), (31, .tup []), (30, B true), (29, B true), (28, I ((zO.l.length : Nat) : Int)), (27, .sl zO.nl (zO.l.map S_Span.D) (zsl zO.nl 2) none), (26, I zK), (3, .sl zO.nl (zO.l.map S_Span.D) (zsl zO.nl 2) none), (4, .sl zP.nl (zP.l.map S_Span.D) (zsl zP.nl 2) none), (5, .lsl 0 0 zJ.length 2 none), (6, I zK), (7, I zN)], [(0, ⟨(zJ.set ((w64 (((zJ.length : Nat) : Int) - 1)).toNat) (⟨(zJ.getD ((w64 (((zJ.length : Nat) : Int) - 1)).toNat) default).lo, zC ((zJ.getD ((w64 (((zJ.length : Nat) : Int) - 1)).toNat) default).hi) ((GS.at zO zK).hi)⟩ : S_Span)).map S_Span.D, 2, false⟩), (1, ⟨[.agg [I ((GS.at zO zK).lo), I ((GS.at zO zK).hi)]], 2, false⟩)], 2, 0⟩

def sd20286 (zO : GS S_Span) (zP : GS S_Span) (zJ : List S_Span) (zK : Int) (zN : Int) : St := ⟨107, [(5, .lsl 3 0 ((zJ ++ [(GS.at zO zK)]).length) 2 none), (105, .lsl 3 0 ((zJ ++ [(GS.at zO zK)]).length) 2 none), (104, .lsl 2 0 1 2 (some 1)), (103, .agg [I ((GS.at zO zK).lo), I ((GS.at zO zK).hi)]), (102, .lsl 0 0 zJ.length 2 none), (87, B false), (86, B false), (85, I (w64 (((zJ.getD ((w64 (((zJ.length : Nat) : Int) - 1)).toNat) default).hi) + 1))), (84, I ((zJ.getD ((w64 (((zJ.length : Nat) : Int) - 1)).toNat) default).hi)), (83, .lref 0 ((w64 (((zJ.length : Nat) : Int) - 1)).toNat) 2 1), (82, .lref 0 ((w64 (((zJ.length : Nat) : Int) - 1)).toNat) 2 0), (81, I (w64 (((zJ.length : Nat) : Int) - 1))), (80, I ((zJ.length : Nat) : Int)), (79, .lsl 0 0 zJ.length 2 none), (78, I ((GS.at zO zK).lo)), (77, .lref 1 0 2 0), (76, B true), (75, B true), (74, I ((zJ.length : Nat) : Int)), (9, I ((zJ.length : Nat) : Int)), (73, I ((zJ.length : Nat) : Int)), (72, .lsl 0 0 zJ.length 2 none), (6, I (w64 (zK + 1))), (65, I (w64 (zK + 1))), (64, I zK), (63, .agg [I ((GS.at zO zK).lo), I ((GS.at zO zK).hi)]), (62, .ptr (.agg [I ((GS.at zO zK).lo), I ((GS.at zO zK).hi)])), (61, I zK), (60, .sl zO.nl (zO.l.map S_Span.D) (zsl zO.nl 2) none), (59, B true), (58, .tup []), (57, .tup []), (56, .tup []), (55, .tup []), (54, .tup []), (53, .tup []), (52, .tup []), (51, .tup []), (50, .tup []), (49, .tup []), (48, .tup []), (47, .tup []), (46, .tup []), (45, .tup []), (44, .tup []), (43, .tup []), (42, .tup []), (41, B true), (40, B true), (39, I ((zP.l.length : Nat) : Int)), (38, .sl zP.nl (zP.l.map S_Span.D) (zsl zP.nl 2) none), (37, I zN), (8, .lref 1 0 2 0), (36, .agg [I 0, I 0]), (35, B true), (34, .tup []), (33, .tup []), (32, .tup []), (31, .tup []), (30, B true), (29, B true), (28, I ((zO.l.length : Nat) : Int)), (27, .sl zO.nl (zO.l.map S_Span.D) (zsl zO.nl 2) none), (26, I zK), (3, .sl zO.nl (zO.l.map S_Span.D) (zsl zO.nl 2) none), (4, .sl zP.nl (zP.l.map S_Span.D) (zsl zP.nl 2) none), (5, .lsl 0 0 zJ.length 2 none), (6, I zK), (7, I zN)], [(1, ⟨[.agg [I ((GS.at zO zK).lo), I ((GS.at zO zK).hi)]], 2, false⟩), (2, ⟨[.agg [I ((GS.at zO zK).lo), I ((GS.at zO zK).hi)]], 2, false⟩), (3, ⟨(zJ ++ [(GS.at zO zK)]).map S_Span.D, 2, false⟩)], 4, 0⟩

def sd20287 (zO : GS S_Span) (zP : GS S_Span) (zJ : List S_Span) (zK : Int) (zN : Int) : St := ⟨107, [(5, .lsl 3 0 ((zJ ++ [(GS.at zO zK)]).length) 2 none), (105, .lsl 3 0 ((zJ ++ [(GS.at zO zK)]).length) 2 none), (104, .lsl 2 0 1 2 (some 1)), (103, .agg [I ((GS.at zO zK).lo), I ((GS.at zO zK).hi)]), (102, .lsl 0 0 zJ.length 2 none), (87, B false), (86, .tup []), (85, .tup []), (84, .tup []), (83, .tup []), (82, .tup []), (81, .tup []), (80, .tup []), (79, .tup []), (78, .tup []), (77, .tup []), (76, B false), (75, B false), (74, I ((zJ.length : Nat) : Int)), (9, I ((zJ.length : Nat) : Int)), (73, I ((zJ.length : Nat) : Int)), (72, .lsl 0 0 zJ.length 2 none), (6, I (w64 (zK + 1))), (65, I (w64 (zK + 1))), (64, I zK), (63, .agg [I ((GS.at zO zK).lo), I ((GS.at zO zK).hi)]), (62, .ptr (.agg [I ((GS.at zO zK).lo), I ((GS.at zO zK).hi)])), (61, I zK), (60, .sl zO.nl (zO.l.map S_Span.D) (zsl zO.nl 2) none), (59, B true), (58, .tup []), (57, .tup []), (56, .tup []), (55, .tup []), (54, .tup []), (53, .tup []), (52, .tup []), (51, .tup []), (50, .tup []), (49, .tup []), (48, .tup []), (47, .tup []), (46, .tup []), (45, .tup []), (44, .tup []), (43, .tup []), (42, .tup []), (41, B true), (40, B true), (39, I ((zP.l.length : Nat) : Int)), (38, .sl zP.nl (zP.l.map S_Span.D) (zsl zP.nl 2) none), (37, I zN), (8, .lref 1 0 2 0), (36, .agg [I 0, I 0]), (35, B true), (34, .tup []), (33, .tup []), (32, .tup []), (31, .tup []), (30, B true), (29, B true), (28, I ((zO.l.length : Nat) : Int)), (27, .sl zO.nl (zO.l.map S_Span.D) (zsl zO.nl 2) none), (26, I zK), (3, .sl zO.nl (zO.l.map S_Span.D) (zsl zO.nl 2) none), (4, .sl zP.nl (zP.l.map S_Span.D) (zsl zP.nl 2) none), (5, .lsl 0 0 zJ.length 2 none), (6, I zK), (7, I zN)], [(1, ⟨[.agg [I ((GS.at zO zK).lo), I ((GS.at zO zK).hi)]], 2, false⟩), (2, ⟨[.agg [I ((GS.at zO zK).lo), I ((GS.at zO zK).hi)]], 2, false⟩), (3, ⟨(zJ ++ [(GS.at zO zK)]).map S_Span.D, 2, false⟩)], 4, 0⟩

def sd20288 (zO : GS S_Span) (zP : GS S_Span) (zJ : List S_Span) (zK : Int) (zN : Int) : St := ⟨107, [(101, .lref 0 ((w64 (((zJ.length : Nat) : Int) - 1)).toNat) 2 1), (100, .lref 0 ((w64 (((zJ.length : Nat) : Int) - 1)).toNat) 2 0), (99, I (zC ((zJ.getD ((w64 (((zJ.length : Nat) : Int) - 1)).toNat) default).hi) ((GS.at zO zK).hi))), (98, I ((GS.at zO zK).hi)), (97, .lref 1 0 2 1), (96, I ((zJ.getD ((w64 (((zJ.length : Nat) : Int) - 1)).toNat) default).hi)), (95, .lref 0 ((w64 (((zJ.length : Nat) : Int) - 1)).toNat) 2 1), (94, .lref 0 ((w64 (((zJ.length : Nat) : Int) - 1)).toNat) 2 0), (93, I (w64 (((zJ.length : Nat) : Int) - 1))), (92, I ((zJ.length : Nat) : Int)), (91, .lsl 0 0 zJ.length 2 none), (90, I (w64 (((zJ.length : Nat) : Int) - 1))), (89, I ((zJ.length : Nat) : Int)), (88, .lsl 0 0 zJ.length 2 none), (87, B true), (86, B true), (85, I (w64 (((zJ.getD ((w64 (((zJ.length : Nat) : Int) - 1)).toNat) default).hi) + 1))), (84, I ((zJ.getD ((w64 (((zJ.length : Nat) : Int) - 1)).toNat) default).hi)), (83, .lref 0 ((w64 (((zJ.length : Nat) : Int) - 1)).toNat) 2 1), (82, .lref 0 ((w64 (((zJ.length : Nat) : Int) - 1)).toNat) 2 0), (81, I (w64 (((zJ.length : Nat) : Int) - 1))), (80, I ((zJ.length : Nat) : Int)), (79, .lsl 0 0 zJ.length 2 none), (78, I ((GS.at zO zK).lo)), (77, .lref 1 0 2 0), (76, B true), (75, B true), (74, I ((zJ.length : Nat) : Int)), (9, I ((zJ.length : Nat) : Int)), (73, I ((zJ.length : Nat) : Int)), (72, .lsl 0 0 zJ.length 2 none), (6, I (w64 (zK + 1))), (65, I (w64 (zK + 1))), (64, I zK), (63, .agg [I ((GS.at zO zK).lo), I ((GS.at zO zK).hi)]), (62, .ptr (.agg [I ((GS.at zO zK).lo), I ((GS.at zO zK).hi)])), (61, I zK), (60, .sl zO.nl (zO.l.map S_Span.D) (zsl zO.nl 2) none), (59, B true), (58, B true), (57, B true), (56, I ((GS.at zP zN).lo)), (55, .ptr (I ((GS.at zP zN).lo))), (54, .ptr (.agg [I ((GS.at zP zN).lo), I ((GS.at zP zN).hi)])), (53, I zN), (52, .sl zP.nl (zP.l.map S_Span.D) (zsl zP.nl 2) none), (51, I ((GS.at zO zK).lo)), (50, .ptr (I ((GS.at zO zK).lo))), (49, .ptr (.agg [I ((GS.at zO zK).lo), I ((GS.at zO zK).hi)])), (48, I zK), (47, .sl zO.nl (zO.l.map S_Span.D) (zsl zO.nl 2) none), (46, B true), (45, B true), (44, I ((zO.l.length : Nat) : Int)), (43, .sl zO.nl (zO.l.map S_Span.D) (zsl zO.nl 2) none), (42, I zK), (41, B false), (40, B false), (39, I ((zP.l.length : Nat) : Int)), (38, .sl zP.nl (zP.l.map S_Span.D) (zsl zP.nl 2) none), (37, I zN), (8, .lref 1 0 2 0), (36, .agg [I 0, I 0]), (35, B true), (34, .tup []), (33, .tup []), (32, .tup []), (31, .tup []), (30, B true), (29, B true), (28, I ((zO.l.length : Nat) : Int)), (27, .sl zO.nl (zO.l.map S_Span.D) (zsl zO.nl 2) none), (26, I zK), (3, .sl zO.nl (zO.l.map S_Span.D) (zsl zO.nl 2) none), (4, .sl zP.nl (zP.l.map S_Span.D) (zsl zP.nl 2) none), (5, .lsl 0 0 zJ.length 2 none), (6, I zK), (7, I zN)], [(0, ⟨(zJ.set ((w64 (((zJ.length : Nat) : Int) - 1)).toNat) (⟨(zJ.getD ((w64 (((zJ.length : Nat) : Int) - 1)).toNat) default).lo, zC ((zJ.getD ((w64 (((zJ.length : Nat) : Int) - 1)).toNat) default).hi) ((GS.at zO zK).hi)⟩ : S_Span)).map S_Span.D, 2, false⟩), (1, ⟨[.agg [I ((GS.at zO zK).lo), I ((GS.at zO zK).hi)]], 2, false⟩)], 2, 0⟩

def sd20289 (zO : GS S_Span) (zP : GS S_Span) (zJ : List S_Span) (zK : Int) (zN : Int) : St := ⟨107, [(5, .lsl 3 0 ((zJ ++ [(GS.at zO zK)]).length) 2 none), (105, .lsl 3 0 ((zJ ++ [(GS.at zO zK)]).length) 2 none), (104, .lsl 2 0 1 2 (some 1)), (103, .agg [I ((GS.at zO zK).lo), I ((GS.at zO zK).hi)]), (102, .lsl 0 0 zJ.length 2 none), (87, B false), (86, B false), (85, I (w64 (((zJ.getD ((w64 (((zJ.length : Nat) : Int) - 1)).toNat) default).hi) + 1))), (84, I ((zJ.getD ((w64 (((zJ.length : Nat) : Int) - 1)).toNat) default).hi)), (83, .lref 0 ((w64 (((zJ.length : Nat) : Int) - 1)).toNat) 2 1), (82, .lref 0 ((w64 (((zJ.length : Nat) : Int) - 1)).toNat) 2 0), (81, I (w64 (((zJ.length : Nat) : Int) - 1))), (80, I ((zJ.length : Nat) : Int)), (79, .lsl 0 0 zJ.length 2 none), (78, I ((GS.at zO zK).lo)), (77, .lref 1 0 2 0), (76, B true), (75, B true), (74, I ((zJ.length : Nat) : Int)), (9, I ((zJ.length : Nat) : Int)), (73, I ((zJ.length : Nat) : Int)), (72, .lsl 0 0 zJ.length 2 none), (6, I (w64 (zK + 1))), (65, I (w64 (zK + 1))), (64, I zK), (63, .agg [I ((GS.at zO zK).lo), I ((GS.at zO zK).hi)]), (62, .ptr (.agg [I ((GS.at zO zK).lo), I ((GS.at zO zK).hi)])), (61, I zK), (60, .sl zO.nl (zO.l.map S_Span.D) (zsl zO.nl 2) none), (59, B true), (58, B true), (57, B true), (56, I ((GS.at zP zN).lo)), (55, .ptr (I ((GS.at zP zN).lo))), (54, .ptr (.agg [I ((GS.at zP zN).lo), I ((GS.at zP zN).hi)])), (53, I zN), (52, .sl zP.nl (zP.l.map S_Span.D) (zsl zP.nl 2) none), (51, I ((GS.at zO zK).lo)), (50, .ptr (I ((GS.at zO zK).lo))), (49, .ptr (.agg [I ((GS.at zO zK).lo), I ((GS.at zO zK).hi)])), (48, I zK), (47, .sl zO.nl (zO.l.map S_Span.D) (zsl zO.nl 2) none), (46, B true), (45, B true), (44, I ((zO.l.length : Nat) : Int)), (43, .sl zO.nl (zO.l.map S_Span.D) (zsl zO.nl 2) none), (42, I zK), (41, B false), (40, B false), (39, I ((zP.l.length : Nat) : Int)), (38, .sl zP.nl (zP.l.map S_Span.D) (zsl zP.nl 2) none), (37, I zN), (8, .lref 1 0 2 0), (36, .agg [I 0, I 0]), (35, B true), (34, .tup []), (33, .tup []), (32, .tup []), (31, .tup []), (30, B true), (29, B true), (28, I ((zO.l.length : Nat) : Int)), (27, .sl zO.nl (zO.l.map S_Span.D) (zsl zO.nl 2) none), (26, I zK), (3, .sl zO.nl (zO.l.map S_Span.D) (zsl zO.nl 2) none), (4, .sl zP.nl (zP.l.map S_Span.D) (zsl zP.nl 2) none), (5, .lsl 0 0 zJ.length 2 none), (6, I zK), (7, I zN)], [(1, ⟨[.agg [I ((GS.at zO zK).lo), I ((GS.at zO zK).hi)]], 2, false⟩), (2, ⟨[.agg [I ((GS.at zO zK).lo), I ((GS.at zO zK).hi)]], 2, false⟩), (3, ⟨(zJ ++ [(GS.at zO zK)]).map S_Span.D, 2, false⟩)], 4, 0⟩

def sd20290 (zO : GS S_Span) (zP : GS S_Span) (zJ : List S_Span) (zK : Int) (zN : Int) : St := ⟨107, [(5, .lsl 3 0 ((zJ ++ [(GS.at zO zK)]).length) 2 none), (105, .lsl 3 0 ((zJ ++ [(GS.at zO zK)]).length) 2 none), (104, .lsl 2 0 1 2 (some 1)), (103, .agg [I ((GS.at zO zK).lo), I ((GS.at zO zK).hi)]), (102, .lsl 0 0 zJ.length 2 none), (87, B false), (86, .tup []), (85, .tup []), (84, .tup []), (83, .tup []), (82, .tup []), (81, .tup []), (80, .tup []), (79, .tup []), (78, .tup []), (77, .tup []), (76, B false), (75, B false), (74, I ((zJ.length : Nat) : Int)), (9, I ((zJ.length : Nat) : Int)), (73, I ((zJ.length : Nat) : Int)), (72, .lsl 0 0 zJ.length 2 none), (6, I (w64 (zK + 1))), (65, I (w64 (zK + 1))), (64, I zK), (63, .agg [I ((GS.at zO zK).lo), I ((GS.at zO zK).hi)]), (62, .ptr (.agg [I ((GS.at zO zK).lo), I ((GS.at zO zK).hi)])), (61, I zK), (60, .sl zO.nl (zO.l.map S_Span.D) (zsl zO.nl 2) none), (59, B true), (58, B true), (57, B true), (56, I ((GS.at zP zN).lo)), (55, .ptr (I ((GS.at zP zN).lo))), (54, .ptr (.agg [I ((GS.at zP zN).lo), I ((GS.at zP zN).hi)])), (53, I zN), (52, .sl zP.nl (zP.l.map S_Span.D) (zsl zP.nl 2) none), (51, I ((GS.at zO zK).lo)), (50, .ptr (I ((GS.at zO zK).lo))), (49, .ptr (.agg [I ((GS.at zO zK).lo), I ((GS.at zO zK).hi)])), (48, I zK), (47, .sl zO.nl (zO.l.map S_Span.D) (zsl zO.nl 2) none), (46, B true), (45, B true), (44, I ((zO.l.length : Nat) : Int)), (43, .sl zO.nl (zO.l.map S_Span.D) (zsl zO.nl 2) none), (42, I zK), (41, B false), (40, B false), (39, I ((zP.l.length : Nat) : Int)), (38, .sl zP.nl (zP.l.map S_Span.D) (zsl zP.nl 2) none), (37, I zN), (8, .lref 1 0 2 0), (36, .agg [I 0, I 0]), (35, B true), (34, .tup []), (33, .tup []), (32, .tup []), (31, .tup []), (30, B true), (29, B true), (28, I ((zO.l.length : Nat) : Int)), (27, .sl zO.nl (zO.l.map S_Span.D) (zsl zO.nl 2) none), (26, I zK), (3, .sl zO.nl (zO.l.map S_Span.D) (zsl zO.nl 2) none), (4, .sl zP.nl (zP.l.map S_Span.D) (zsl zP.nl 2) none), (5, .lsl 0 0 zJ.length 2 none), (6, I zK), (7, I zN)], [(1, ⟨[.agg [I ((GS.at zO zK).lo), I ((GS.at zO zK).hi)]], 2, false⟩), (2, ⟨[.agg [I ((GS.at zO zK).lo), I ((GS.at zO zK).hi)]], 2, false⟩), (3, ⟨(zJ ++ [(GS.at zO zK)]).map S_Span.D, 2, false⟩)], 4, 0⟩

def sd20291 (zO : GS S_Span) (zP : GS S_Span) (zJ : List S_Span) (zK : Int) (zN : Int) : St := ⟨107, [(101, .lref 0 ((w64 (((zJ.length : Nat) : Int) - 1)).toNat) 2 1), (100, .lref 0 ((w64 (((zJ.length : Nat) : Int) - 1)).toNat) 2 0), (99, I (zC ((zJ.getD ((w64 (((zJ.length : Nat) : Int) - 1)).toNat) default).hi) ((GS.at zP zN).hi))), (98, I ((GS.at zP zN).hi)), (97, .lref 1 0 2 1), (96, I ((zJ.getD ((w64 (((zJ.length : Nat) : Int) - 1)).toNat) default).hi)), (95, .lref 0 ((w64 (((zJ.length : Nat) : Int) - 1)).toNat) 2 1), (94, .lref 0 ((w64 (((zJ.length : Nat) : Int) - 1)).toNat) 2 0), (93, I (w64 (((zJ.length : Nat) : Int) - 1))), (92, I ((zJ.length : Nat) : Int)), (91, .lsl 0 0 zJ.length 2 none), (90, I (w64 (((zJ.length : Nat) : Int) - 1))), (89, I ((zJ.length : Nat) : Int)), (88, .lsl 0 0 zJ.length 2 none), (87, B true), (86, B true), (85, I (w64 (((zJ.getD ((w64 (((zJ.length : Nat) : Int) - 1)).toNat) default).hi) + 1))), (84, I ((zJ.getD ((w64 (((zJ.length : Nat) : Int) - 1)).toNat) default).hi)), (83, .lref 0 ((w64 (((zJ.length : Nat) : Int) - 1)).toNat) 2 1), (82, .lref 0 ((w64 (((zJ.length : Nat) : Int) - 1)).toNat) 2 0), (81, I (w64 (((zJ.length : Nat) : Int) - 1))), (80, I ((zJ.length : Nat) : Int)), (79, .lsl 0 0 zJ.length 2 none), (78, I ((GS.at zP zN).lo)), (77, .lref 1 0 2 0), (76, B true), (75, B true), (74, I ((zJ.length : Nat) : Int)), (9, I ((zJ.length : Nat) : Int)), (73, I ((zJ.length : Nat) : Int)), (72, .lsl 0 0 zJ.length 2 none), (7, I (w64 (zN + 1))), (71, I (w64 (zN + 1))), (70, I zN), (69, .agg [I ((GS.at zP zN).lo), I ((GS.at zP zN).hi)]), (68, .ptr (.agg [I ((GS.at zP zN).lo), I ((GS.at zP zN).hi)])), (67, I zN), (66, .sl zP.nl (zP.l.map S_Span.D) (zsl zP.nl 2) none), (59, B false), (58, B false), (57, B false), (56, I ((GS.at zP zN).lo)), (55, .ptr (I ((GS.at zP zN).lo))), (54, .ptr (.agg [I ((GS.at zP zN).lo), I ((GS.at zP zN).hi)])), (53, I zN), (52, .sl zP.nl (zP.l.map S_Span.D) (zsl zP.nl 2) none), (51, I ((GS.at zO zK).lo)), (50, .ptr (I ((GS.at zO zK).lo))), (49, .ptr (.agg [I ((GS.at zO zK).lo), I ((GS.at zO zK).hi)])), (48, I zK), (47, .sl zO.nl (zO.l.map S_Span.D) (zsl zO.nl 2) none), (46, B true), (45, B true), (44, I ((zO.l.length : Nat) : Int)), (43, .sl zO.nl (zO.l.map S_Span.D) (zsl zO.nl 2) none), (42, I zK), (41, B false), (40, B false), (39, I ((zP.l.length : Nat) : Int)), (38, .sl zP.nl (zP.l.map S_Span.D) (zsl zP.nl 2) none), (37, I zN), (8, .lref 1 0 2 0), (36, .agg [I 0, I 0]), (35, B true), (34, .tup []), (33, .tup []), (32, .tup []), (31, .tup []), (30, B true), (29, B true), (28, I ((zO.l.length : Nat) : Int)), (27, .sl zO.nl (zO.l.map S_Span.D) (zsl zO.nl 2) none), (26, I zK), (3, .sl zO.nl (zO.l.map S_Span.D) (zsl zO.nl 2) none), (4, .sl zP.nl (zP.l.map S_Span.D) (zsl zP.nl 2) none), (5, .lsl 0 0 zJ.length 2 none), (6, I zK), (7, I zN)], [(0, ⟨(zJ.set ((w64 (((zJ.length : Nat) : Int) - 1)).toNat) (⟨(zJ.getD ((w64 (((zJ.length : Nat) : Int) - 1)).toNat) default).lo, zC ((zJ.getD ((w64 (((zJ.length : Nat) : Int) - 1)).toNat) default).hi) ((GS.at zP zN).hi)⟩ : S_Span)).map S_Span.D, 2, false⟩), (1, ⟨[.agg [I ((GS.at zP zN).lo), I ((GS.at zP zN).hi)]], 2, false⟩)], 2, 0⟩

def sd20292 (zO : GS S_Span) (zP : GS S_Span) (zJ : List S_Span) (zK : Int) (zN : Int) : St := ⟨107, [(5, .lsl 3 0 ((zJ ++ [(GS.at zP zN)]).length) 2 none), (105, .lsl 3 0 ((zJ ++ [(GS.at zP zN)]).length) 2 none), (104, .lsl 2 0 1 2 (some 1)), (103, .agg [I ((GS.at zP zN).lo), I ((GS.at zP zN).hi)]), (102, .lsl 0 0 zJ.length 2 none), (87, B false), (86, B false), (85, I (w64 (((zJ.getD ((w64 (((zJ.length : Nat) : Int) - 1)).toNat) default).hi) + 1))), (84, I ((zJ.getD ((w64 (((zJ.length : Nat) : Int) - 1)).toNat) default).hi)), (83, .lref 0 ((w64 (((zJ.length : Nat) : Int) - 1)).toNat) 2 1), (82, .lref 0 ((w64 (((zJ.length : Nat) : Int) - 1)).toNat) 2 0), (81, I (w64 (((zJ.length : Nat) : Int) - 1))), (80, I ((zJ.length : Nat) : Int)), (79, .lsl 0 0 zJ.length 2 none), (78, I ((GS.at zP zN).lo)), (77, .lref 1 0 2 0), (76, B true), (75, B true), (74, I ((zJ.length : Nat) : Int)), (9, I ((zJ.length : Nat) : Int)), (73, I ((zJ.length : Nat) : Int)), (72, .lsl 0 0 zJ.length 2 none), (7, I (w64 (zN + 1))), (71, I (w64 (zN + 1))), (70, I zN), (69, .agg [I ((GS.at zP zN).lo), I ((GS.at zP zN).hi)]), (68, .ptr (.agg [I ((GS.at zP zN).lo), I ((GS.at zP zN).hi)])), (67, I zN), (66, .sl zP.nl (zP.l.map S_Span.D) (zsl zP.nl 2) none), (59, B false), (58, B false), (57, B false), (56, I ((GS.at zP zN).lo)), (55, .ptr (I ((GS.at zP zN).lo))), (54, .ptr (.agg [I ((GS.at zP zN).lo), I ((GS.at zP zN).hi)])), (53, I zN), (52, .sl zP.nl (zP.l.map S_Span.D) (zsl zP.nl 2) none), (51, I ((GS.at zO zK).lo)), (50, .ptr (I ((GS.at zO zK).lo))), (49, .ptr (.agg [I ((GS.at zO zK).lo), I ((GS.at zO zK).hi)])), (48, I zK), (47, .sl zO.nl (zO.l.map S_Span.D) (zsl zO.nl 2) none), (46, B true), (45, B true), (44, I ((zO.l.length : Nat) : Int)), (43, .sl zO.nl (zO.l.map S_Span.D) (zsl zO.nl 2) none), (42, I zK), (41, B false), (40, B false), (39, I ((zP.l.length : Nat) : Int)), (38, .sl zP.nl (zP.l.map S_Span.D) (zsl zP.nl 2) none), (37, I zN), (8, .lref 1 0 2 0), (36, .agg [I 0, I 0]), (35, B true), (34, .tup []), (33, .tup []), (32, .tup []), (31, .tup []), (30, B true), (29, B true), (28, I ((zO.l.length : Nat) : Int)), (27, .sl zO.nl (zO.l.map S_Span.D) (zsl zO.nl 2) none), (26, I zK), (3, .sl zO.nl (zO.l.map S_Span.D) (zsl zO.nl 2) none), (4, .sl zP.nl (zP.l.map S_Span.D) (zsl zP.nl 2) none), (5, .lsl 0 0 zJ.length 2 none), (6, I zK), (7, I zN)], [(1, ⟨[.agg [I ((GS.at zP zN).lo), I ((GS.at zP zN).hi)]], 2, false⟩), (2, ⟨[.agg [I ((GS.at zP zN).lo), I ((GS.at zP zN).hi)]], 2, false⟩), (3, ⟨(zJ ++ [(GS.at zP zN)]).map S_Span.D, 2, false⟩)], 4, 0⟩

def sd20293 (zO : GS S_Span) (zP : GS S_Span) (zJ : List S_Span) (zK : Int) (zN : Int) : St := ⟨107, [(5, .lsl 3 0 ((zJ ++ [(GS.at zP zN)]).length) 2 none), (105, .lsl 3 0 ((zJ ++ [(GS.at zP zN)]).length) 2 none), (104, .lsl 2 0 1 2 (some 1)), (103, .agg [I ((GS.at zP zN).lo), I ((GS.at zP zN).hi)]), (102, .lsl 0 0 zJ.length 2 none), (87, B false), (86, .tup []), (85, .tup []), (84, .tup []), (83, .tup []), (82, .tup []), (81, .tup []), (80, .tup []), (79, .tup []), (78, .tup []), (77, .tup []), (76, B false), (75, B false), (74, I ((zJ.length : Nat) : Int)), (9, I ((zJ.length : Nat) : Int)), (73, I ((zJ.length : Nat) : Int)), (72, .lsl 0 0 zJ.length 2 none), (7, I (w64 (zN + 1))), (71, I (w64 (zN + 1))), (70, I zN), (69, .agg [I ((GS.at zP zN).lo), I ((GS.at zP zN).hi)]), (68, .ptr (.agg [I ((GS.at zP zN).lo), I ((GS.at zP zN).hi)])), (67, I zN), (66, .sl zP.nl (zP.l.map S_Span.D) (zsl zP.nl 2) none), (59, B false), (58, B false), (57, B false), (56, I ((GS.at zP zN).lo)), (55, .ptr (I ((GS.at zP zN).lo))), (54, .ptr (.agg [I ((GS.at zP zN).lo), I ((GS.at zP zN).hi)])), (53, I zN), (52, .sl zP.nl (zP.l.map S_Span.D) (zsl zP.nl 2) none), (51, I ((GS.at zO zK).lo)), (50, .ptr (I ((GS.at zO zK).lo))), (49, .ptr (.agg [I ((GS.at zO zK).lo), I ((GS.at zO zK).hi)])), (48, I zK), (47, .sl zO.nl (zO.l.map S_Span.D) (zsl zO.nl 2) none), (46, B true), (45, B true), (44, I ((zO.l.length : Nat) : Int)), (43, .sl zO.nl (zO.l.map S_Span.D) (zsl zO.nl 2) none), (42, I zK), (41, B false), (40, B false), (39, I ((zP.l.length : Nat) : Int)), (38, .sl zP.nl (zP.l.map S_Span.D) (zsl zP.nl 2) none), (37, I zN), (8, .lref 1 0 2 0), (36, .agg [I 0, I 0]), (35, B true), (34, .tup []), (33, .tup []), (32, .tup []), (31, .tup []), (30, B true), (29, B true), (28, I ((zO.l.length : Nat) : Int)), (27, .sl zO.nl (zO.l.map S_Span.D) (zsl zO.nl 2) none), (26, I zK), (3, .sl zO.nl (zO.l.map S_Span.D) (zsl zO.nl 2) none), (4, .sl zP.nl (zP.l.map S_Span.D) (zsl zP.nl 2) none), (5, .lsl 0 0 zJ.length 2 none), (6, I zK), (7, I zN)], [(1, ⟨[.agg [I ((GS.at zP zN).lo), I ((GS.at zP zN).hi)]], 2, false⟩), (2, ⟨[.agg [I ((GS.at zP zN).lo), I ((GS.at zP zN).hi)]], 2, false⟩), (3, ⟨(zJ ++ [(GS.at zP zN)]).map S_Span.D, 2, false⟩)], 4, 0⟩

def sd20294 (zO : GS S_Span) (zP : GS S_Span) (zJ : List S_Span) (zK : Int) (zN : Int) : St := ⟨107, [(101, .lref 0 ((w64 (((zJ.length : Nat) : Int) - 1)).toNat) 2 1), (100, .lref 0 ((w64 (((zJ.length : Nat) : Int) - 1)).toNat) 2 0), (99, I (zC ((zJ.getD ((w64 (((zJ.length : Nat) : Int) - 1)).toNat) default).hi) ((GS.at zO zK).hi))), (98, I ((GS.at zO zK).hi)), (97, .lref 1 0 2 1), (96, I ((zJ.getD ((w64 (((zJ.length : Nat) : Int) - 1)).toNat) default).hi)), (95, .lref 0 ((w64 (((zJ.length : Nat) : Int) - 1)).toNat) 2 1), (94, .lref 0 ((w64 (((zJ.length : Nat) : Int) - 1)).toNat) 2 0), (93, I (w64 (((zJ.length : Nat) : Int) - 1))), (92, I ((zJ.length : Nat) : Int)), (91, .lsl 0 0 zJ.length 2 none), (90, I (w64 (((zJ.length : Nat) : Int) - 1))), (89, I ((zJ.length : Nat) : Int)), (88, .lsl 0 0 zJ.length 2 none), (87, B true), (86, B true), (85, I (w64 (((zJ.getD ((w64 (((zJ.length : Nat) : Int) - 1)).toNat) default).hi) + 1))), (84, I ((zJ.getD ((w64 (((zJ.length : Nat) : Int) - 1)).toNat) default).hi)), (83, .lref 0 ((w64 (((zJ.length : Nat) : Int) - 1)).toNat) 2 1), (82, .lref 0 ((w64 (((zJ.length : Nat) : Int) - 1)).toNat) 2 0), (81, I (w64 (((zJ.length : Nat) : Int) - 1))), (80, I ((zJ.length : Nat) : Int)), (79, .lsl 0 0 zJ.length 2 none), (78, I ((GS.at zO zK).lo)), (77, .lref 1 0 2 0), (76, B true), (75, B true), (74, I ((zJ.length : Nat) : Int)), (9, I ((zJ.length : Nat) : Int)), (73, I ((zJ.length : Nat) : Int)), (72, .lsl 0 0 zJ.length 2 none), (6, I (w64 (zK + 1))), (65, I (w64 (zK + 1))), (64, I zK), (63, .agg [I ((GS.at zO zK).lo), I ((GS.at zO zK).hi)]), (62, .ptr (.agg [I ((GS.at zO zK).lo), I ((GS.at zO zK).hi)])), (61, I zK), (60, .sl zO.nl (zO.l.map S_Span.D) (zsl zO.nl 2) none), (59, B true), (58, .tup []), (57, .tup []), (56, .tup []), (55, .tup []), (54, .tup []), (53, .tup []), (52, .tup []), (51, .tup []), (50, .tup []), (49, .tup []), (48, .tup []), (47, .tup []), (46, .tup []), (45, .tup []), (44, .tup []), (43, .tup []), (42, .tup []), (41, B true), (40, B true), (39, I ((zP.l.length : Nat) : Int)), (38, .sl zP.nl (zP.l.map S_Span.D) (zsl zP.nl 2) none), (37, I zN), (8, .lref 1 0 2 0), (36, .agg [I 0, I 0]), (35, B true), (34, B true), (33, I ((zP.l.length : Nat) : Int)), (32, .sl zP.nl (zP.l.map S_Span.D) (zsl zP.nl 2) none), (31, I zN), (30, B false), (29, B false), (28, I ((zO.l.length : Nat) : Int)), (27, .sl zO.nl (zO.l.map S_Span.D) (zsl zO.nl 2) none), (26, I zK), (3, .sl zO.nl (zO.l.map S_Span.D) (zsl zO.nl 2) none), (4, .sl zP.nl (zP.l.map S_Span.D) (zsl zP.nl 2) none), (5, .lsl 0 0 zJ.length 2 none), (6, I zK), (7, I zN)], [(0, ⟨(zJ.set ((w64 (((zJ.length : Nat) : Int) - 1)).toNat) (⟨(zJ.getD ((w64 (((zJ.length : Nat) : Int) - 1)).toNat) default).lo, zC ((zJ.getD ((w64 (((zJ.length : Nat) : Int) - 1)).toNat) default).hi) ((GS.at zO zK).hi)⟩ : S_Span)).map S_Span.D, 2, false⟩), (1, ⟨[.agg [I ((GS.at zO zK).lo), I ((GS.at zO zK).hi)]], 2, false⟩)], 2, 0⟩

def sd20295 (zO : GS S_Span) (zP : GS S_Span) (zJ : List S_Span) (zK : Int) (zN : Int) : St := ⟨107, [(5, .lsl 3 0 ((zJ ++ [(GS.at zO zK)]).length) 2 none), (105, .lsl 3 0 ((zJ ++ [(GS.at zO zK)]).length) 2 none), (104, .lsl 2 0 1 2 (some 1)), (103, .agg [I ((GS.at zO zK).lo), I ((GS.at zO zK).hi)]), (102, .lsl 0 0 zJ.length 2 none), (87, B false), (86, B false), (85, I (w64 (((zJ.getD ((w64 (((zJ.length : Nat) : Int) - 1)).toNat) default).hi) + 1))), (84, I ((zJ.getD ((w64 (((zJ.length : Nat) : Int) - 1)).toNat) default).hi)), (83, .lref 0 ((w64 (((zJ.length : Nat) : Int) - 1)).toNat) 2 1), (82, .lref 0 ((w64 (((zJ.length : Nat) : Int) - 1)).toNat) 2 0), (81, I (w64 (((zJ.length : Nat) : Int) - 1))), (80, I ((zJ.length : Nat) : Int)), (79, .lsl 0 0 zJ.length 2 none), (78, I ((GS.at zO zK).lo)), (77, .lref 1 0 2 0), (76, B true), (75, B true), (74, I ((zJ.length : Nat) : Int)), (9, I ((zJ.length : Nat) : Int)), (73, I ((zJ.length : Nat) : Int)), (72, .lsl 0 0 zJ.length 2 none), (6, I (w64 (zK + 1))), (65, I (w64 (zK + 1))), (64, I zK), (63, .agg [I ((GS.at zO zK).lo), I ((GS.at zO zK).hi)]), (62, .ptr (.agg [I ((GS.at zO zK).lo), I ((GS.at zO zK).hi)])), (61, I zK), (60, .sl zO.nl (zO.l.map S_Span.D) (zsl zO.nl 2) none), (59, B true), (58, .tup []), (57, .tup []), (56, .tup []), (55, .tup []), (54, .tup []), (53, .tup []), (52, .tup []), (51, .tup []), (50, .tup []), (49, .tup []), (48, .tup []), (47, .tup []), (46, .tup []), (45, .tup []), (44, .tup []), (43, .tup []), (42, .tup []), (41, B true), (40, B true), (39, I ((zP.l.length : Nat) : Int)), (38, .sl zP.nl (zP.l.map S_Span.D) (zsl zP.nl 2) none), (37, I zN), (8, .lref 1 0 2 0), (36, .agg [I 0, I 0]), (35, B true), (34, B true), (33, I ((zP.l.length : Nat) : Int)), (32, .sl zP.nl (zP.l.map S_Span.D) (zsl zP.nl 2) none), (31, I zN), (30, B false), (29, B false), (28, I ((zO.l.length : Nat) : Int)), (27, .sl zO.nl (zO.l.map S_Span.D) (zsl zO.nl 2) none), (26, I zK), (3, .sl zO.nl (zO.l.map S_Span.D) (zsl zO.nl 2) none), (4, .sl zP.nl (zP.l.map S_Span.D) (zsl zP.nl 2) none), (5, .lsl 0 0 zJ.length 2 none), (6, I zK), (7, I zN)], [(1, ⟨[.agg [I ((GS.at zO zK).lo), I ((GS.at zO zK).hi)]], 2, false⟩), (2, ⟨[.agg [I ((GS.at zO zK).lo), I ((GS.at zO zK).hi)]], 2, false⟩), (3, ⟨(zJ ++ [(GS.at zO zK)]).map S_Span.D, 2, false⟩)], 4, 0⟩

def sd20296 (zO : GS S_Span) (zP : GS S_Span) (zJ : List S_Span) (zK : Int) (zN : Int) : St := ⟨107, [(5, .lsl 3 0 ((zJ ++ [(GS.at zO zK)]).length) 2 none), (105, .lsl 3 0 ((zJ ++ [(GS.at zO zK)]).length) 2 none), (104, .lsl 2 0 1 2 (some 1)), (103, .agg [I ((GS.at zO zK).lo), I ((GS.at zO zK).hi)]), (102, .lsl 0 0 zJ.length 2 none), (87, B false), (86, .tup []), (85, .tup []), (84, .tup []), (83, .tup []), (82, .tup []), (81, .tup []), (80, .tup []), (79, .tup []), (78, .tup []), (77, .tup []), (76, B false), (75, B false), (74, I ((zJ.length : Nat) : Int)), (9, I ((zJ.length : Nat) : Int)), (73, I ((zJ.length : Nat) : Int)), (72, .lsl 0 0 zJ.length 2 none), (6, I (w64 (zK + 1))), (65, I (w64 (zK + 1))), (64, I zK), (63, .agg [I ((GS.at zO zK).lo), I ((GS.at zO zK).hi)]), (62, .ptr (.agg [I ((GS.at zO zK).lo), I ((GS.at zO zK).hi)])), (61, I zK), (60, .sl zO.nl (zO.l.map S_Span.D) (zsl zO.nl 2) none), (59, B true), (58, .tup []), (57, .tup []), (56, .tup []), (55, .tup []), (54, .tup []), (53, .tup []), (52, .tup []), (51, .tup []), (50, .tup []), (49, .tup []), (48, .tup []), (47, .tup []), (46, .tup []), (45, .tup []), (44, .tup []), (43, .tup []), (42, .tup []), (41, B true), (40, B true), (39, I ((zP.l.length : Nat) : Int)), (38, .sl zP.nl (zP.l.map S_Span.D) (zsl zP.nl 2) none), (37, I zN), (8, .lref 1 0 2 0), (36, .agg [I 0, I 0]), (35, B true), (34, B true), (33, I ((zP.l.length : Nat) : Int)), (32, .sl zP.nl (zP.l.map S_Span.D) (zsl zP.nl 2) none), (31, I zN), (30, B false), (29, B false), (28, I ((zO.l.length : Nat) : Int)), (27, .sl zO.nl (zO.l.map S_Span.D) (zsl zO.nl 2) none), (26, I zK), (3, .sl zO.nl (zO.l.map S_Span.D) (zsl zO.nl 2) none), (4, .sl zP.nl (zP.l.map S_Span.D) (zsl zP.nl 2) none), (5, .lsl 0 0 zJ.length 2 none), (6, I zK), (7, I zN)], [(1, ⟨[.agg [I ((GS.at zO zK).lo), I ((GS.at zO zK).hi)]], 2, false⟩), (2, ⟨[.agg [I ((GS.at zO zK).lo), I ((GS.at zO zK).hi)]], 2, false⟩), (3, ⟨(zJ ++ [(GS.at zO zK)]).map S_Span.D, 2, false⟩)], 4, 0⟩

def sd20297 (zO : GS S_Span) (zP : GS S_Span) (zJ : List S_Span) (zK : Int) (zN : Int) : St := ⟨107, [(101, .lref 0 ((w64 (((zJ.length : Nat) : Int) - 1)).toNat) 2 1), (100, .lref 0 ((w64 (((zJ.length : Nat) : Int) - 1)).toNat) 2 0), (99, I (zC ((zJ.getD ((w64 (((zJ.length : Nat) : Int) - 1)).toNat) default).hi) ((GS.at zP zN).hi))), (98, I ((GS.at zP zN).hi)), (97, .lref 1 0 2 1), (96, I ((zJ.getD ((w64 (((zJ.length : Nat) : Int) - 1)).toNat) default).hi)), (95, .lref 0 ((w64 (((zJ.length : Nat) : Int) - 1)).toNat) 2 1), (94, .lref 0 ((w64 (((zJ.length : Nat) : Int) - 1)).toNat) 2 0), (93, I (w64 (((zJ.length : Nat) : Int) - 1))), (92, I ((zJ.length : Nat) : Int)), (91, .lsl 0 0 zJ.length 2 none), (90, I (w64 (((zJ.length : Nat) : Int) - 1))), (89, I ((zJ.length : Nat) : Int)), (88, .lsl 0 0 zJ.length 2 none), (87, B true), (86, B true), (85, I (w64 (((zJ.getD ((w64 (((zJ.length : Nat) : Int) - 1)).toNat) default).hi) + 1))), (84, I ((zJ.getD ((w64 (((zJ.length : Nat) : Int) - 1)).toNat) default).hi)), (83, .lref 0 ((w64 (((zJ.length : Nat) : Int) - 1)).toNat) 2 1), (82, .lref 0 ((w64 (((zJ.length : Nat) : Int) - 1)).toNat) 2 0), (81, I (w64 (((zJ.length : Nat) : Int) - 1))), (80, I ((zJ.length : Nat) : Int)), (79, .lsl 0 0 zJ.length 2 none), (78, I ((GS.at zP zN).lo)), (77, .lref 1 0 2 0), (76, B true), (75, B true), (74, I ((zJ.length : Nat) : Int)), (9, I ((zJ.length : Nat) : Int)), (73, I ((zJ.length : Nat) : Int)), (72, .lsl 0 0 zJ.length 2 none), (7, I (w64 (zN + 1))), (71, I (w64 (zN + 1))), (70, I zN), (69, .agg [I ((GS.at zP zN).lo), I ((GS.at zP zN).hi)]), (68, .ptr (.agg [I ((GS.at zP zN).lo), I ((GS.at zP zN).hi)])), (67, I zN), (66, .sl zP.nl (zP.l.map S_Span.D) (zsl zP.nl 2) none), (59, B false), (58, B false), (57, .tup []), (56, .tup []), (55, .tup []), (54, .tup []), (53, .tup []), (52, .tup []), (51, .tup []), (50, .tup []), (49, .tup []), (48, .tup []), (47, .tup []), (46, B false), (45, B false), (44, I ((zO.l.length : Nat) : Int)), (43, .sl zO.nl (zO.l.map S_Span.D) (zsl zO.nl 2) none), (42, I zK), (41, B false), (40, B false), (39, I ((zP.l.length : Nat) : Int)), (38, .sl zP.nl (zP.l.map S_Span.D) (zsl zP.nl 2) none), (37, I zN), (8, .lref 1 0 2 0), (36, .agg [I 0, I 0]), (35, B true), (34, B true), (33, I ((zP.l.length : Nat) : Int)), (32, .sl zP.nl (zP.l.map S_Span.D) (zsl zP.nl 2) none), (31, I zN), (30, B false), (29, B false), (28, I ((zO.l.length : Nat) : Int)), (27, .sl zO.nl (zO.l.map S_Span.D) (zsl zO.nl 2) none), (26, I zK), (3, .sl zO.nl (zO.l.map S_Span.D) (zsl zO.nl 2) none), (4, .sl zP.nl (zP.l.map S_Span.D) (zsl zP.nl 2) none), (5, .lsl 0 0 zJ.length 2 none), (6, I zK), (7, I zN)], [(0, ⟨(zJ.set ((w64 (((zJ.length : Nat) : Int) - 1)).toNat) (⟨(zJ.getD ((w64 (((zJ.length : Nat) : Int) - 1)).toNat) default).lo, zC ((zJ.getD ((w64 (((zJ.length : Nat) : Int) - 1)).toNat) default).hi) ((GS.at zP zN).hi)⟩ : S_Span)).map S_Span.D, 2, false⟩), (1, ⟨[.agg [I ((GS.at zP zN).lo), I ((GS.at zP zN).hi)]], 2, false⟩)], 2, 0⟩

def sd20298 (zO : GS S_Span) (zP : GS S_Span) (zJ : List S_Span) (zK : Int) (zN : Int) : St := ⟨107, [(5, .lsl 3 0 ((zJ ++ [(GS.at zP zN)]).length) 2 none), (105, .lsl 3 0 ((zJ ++ [(GS.at zP zN)]).length) 2 none), (104, .lsl 2 0 1 2 (some 1)), (103, .agg [I ((GS.at zP zN).lo), I ((GS.at zP zN).hi)]), (102, .lsl 0 0 zJ.length 2 none), (87, B false), (86, B false), (85, I (w64 (((zJ.getD ((w64 (((zJ.length : Nat) : Int) - 1)).toNat) default).hi) + 1))), (84, I ((zJ.getD ((w64 (((zJ.length : Nat) : Int) - 1)).toNat) default).hi)), (83, .lref 0 ((w64 (((zJ.length : Nat) : Int) - 1)).toNat) 2 1), (82, .lref 0 ((w64 (((zJ.length : Nat) : Int) - 1)).toNat) 2 0), (81, I (w64 (((zJ.length : Nat) : Int) - 1))), (80, I ((zJ.length : Nat) : Int)), (79, .lsl 0 0 zJ.length 2 none), (78, I ((GS.at zP zN).lo)), (77, .lref 1 0 2 0), (76, B true), (75, B true), (74, I ((zJ.length : Nat) : Int)), (9, I ((zJ.length : Nat) : Int)), (73, I ((zJ.length : Nat) : Int)), (72, .lsl 0 0 zJ.length 2 none), (7, I (w64 (zN + 1))), (71, I (w64 (zN + 1))), (70, I zN), (69, .agg [I ((GS.at zP zN).lo), I ((GS.at zP zN).hi)]), (68, .ptr (.agg [I ((GS.at zP zN).lo), I ((GS.at zP zN).hi)])), (67, I zN), (66, .sl zP.nl (zP.l.map S_Span.D) (zsl zP.nl 2) none), (59, B false), (58, B false), (57, .tup []), (56, .tup []), (55, .tup []), (54, .tup []), (53, .tup []), (52, .tup []), (51, .tup []), (50, .tup []), (49, .tup []), (48, .tup []), (47, .tup []), (46, B false), (45, B false), (44, I ((zO.l.length : Nat) : Int)), (43, .sl zO.nl (zO.l.map S_Span.D) (zsl zO.nl 2) none), (42, I zK), (41, B false), (40, B false), (39, I ((zP.l.length : Nat) : Int)), (38, .sl zP.nl (zP.l.map S_Span.D) (zsl zP.nl 2) none), (37, I zN), (8, .lref 1 0 2 0), (36, .agg [I 0, I 0]), (35, B true), (34, B true), (33, I ((zP.l.length : Nat) : Int)), (32, .sl zP.nl (zP.l.map S_Span.D) (zsl zP.nl 2) none), (31, I zN), (30, B false), (29, B false), (28, I ((zO.l.length : Nat) : Int)), (27, .sl zO.nl (zO.l.map S_Span.D) (zsl zO.nl 2) none), (26, I zK), (3, .sl zO.nl (zO.l.map S_Span.D) (zsl zO.nl 2) none), (4, .sl zP.nl (zP.l.map S_Span.D) (zsl zP.nl 2) none), (5, .lsl 0 0 zJ.length 2 none), (6, I zK), (7, I zN)], [(1, ⟨[.agg [I ((GS.at zP zN).lo), I ((GS.at zP zN).hi)]], 2, false⟩), (2, ⟨[.agg [I ((GS.at zP zN).lo), I ((GS.at zP zN).hi)]], 2, false⟩), (3, ⟨(zJ ++ [(GS.at zP zN)]).map S_Span.D, 2, false⟩)], 4, 0⟩

def sd20299 (zO : GS S_Span) (zP : GS S_Span) (zJ : List S_Span) (zK : Int) (zN : Int) : St := ⟨107, [(5, .lsl 3 0 ((zJ ++ [(GS.at zP zN)]).length) 2 none), (105, .lsl 3 0 ((zJ ++ [(GS.at zP zN)]).length) 2 none), (104, .lsl 2 0 1 2 (some 1)), (103, .agg [I ((GS.at zP zN).lo), I ((GS.at zP zN).hi)]), (102, .lsl 0 0 zJ.length 2 none), (87, B false), (86, .tup []), (85, .tup []), (84, .tup []), (83, .tup []), (82, .tup []), (81, .tup []), (80, .tup []), (79, .tup []), (78, .tup []), (77, .tup []), (76, B false), (75, B false), (74, I ((zJ.length : Nat) : Int)), (9, I ((zJ.length : Nat) : Int)), (73, I ((zJ.length : Nat) : Int)), (72, .lsl 0 0 zJ.length 2 none), (7, I (w64 (zN + 1))), (71, I (w64 (zN + 1))), (70, I zN), (69, .agg [I ((GS.at zP zN).lo), I ((GS.at zP zN).hi)]), (68, .ptr (.agg [I ((GS.at zP zN).lo), I ((GS.at zP zN).hi)])), (67, I zN), (66, .sl zP.nl (zP.l.map S_Span.D) (zsl zP.nl 2) none), (59, B false), (58, B false), (57, .tup []), (56, .tup []), (55, .tup []), (54, .tup []), (53, .tup []), (52, .tup []), (51, .tup []), (50, .tup []), (49, .tup []), (48, .tup []), (47, .tup []), (46, B false), (45, B false), (44, I ((zO.l.length : Nat) : Int)), (43, .sl zO.nl (zO.l.map S_Span.D) (zsl zO.nl 2) none), (42, I zK), (41, B false), (40, B false), (39, I ((zP.l.length : Nat) : Int)), (38, .sl zP.nl (zP.l.map S_Span.D) (zsl zP.nl 2) none), (37, I zN), (8, .lref 1 0 2 0), (36, .agg [I 0, I 0]), (35, B true), (34, B true), (33, I ((zP.l.length : Nat) : Int)), (32, .sl zP.nl (zP.l.map S_Span.D) (zsl zP.nl 2) none), (31, I zN), (30, B false), (29, B false), (28, I ((zO.l.length : Nat) : Int)), (27, .sl zO.nl (zO.l.map S_Span.D) (zsl zO.nl 2) none), (26, I zK), (3, .sl zO.nl (zO.l.map S_Span.D) (zsl zO.nl 2) none), (4, .sl zP.nl (zP.l.map S_Span.D) (zsl zP.nl 2) none), (5, .lsl 0 0 zJ.length 2 none), (6, I zK), (7, I zN)], [(1, ⟨[.agg [I ((GS.at zP zN).lo), I ((GS.at zP zN).hi)]], 2, false⟩), (2, ⟨[.agg [I ((GS.at zP zN).lo), I ((GS.at zP zN).hi)]], 2, false⟩), (3, ⟨(zJ ++ [(GS.at zP zN)]).map S_Span.D, 2, false⟩)], 4, 0⟩

inductive LR_r_Join_8 where
  | x0 (zJ : List S_Span) (zK : Int) (zN : Int)
  | x1
  | out
instance : Inhabited LR_r_Join_8 := ⟨.out⟩
def zr (zO : GS S_Span) (zP : GS S_Span) : Nat → (List S_Span) → Int → Int → LR_r_Join_8
  | 0, _, _, _ => .out
  | zT + 1, zJ, zK, zN =>
    bif decide (zK < ((zO.l.length : Nat) : Int)) then
      bif (zN == ((zP.l.length : Nat) : Int)) then
        bif decide (((zJ.length : Nat) : Int) > 0) then
          bif decide (((GS.at zO zK).lo) ≤ (w64 (((zJ.getD ((w64 (((zJ.length : Nat) : Int) - 1)).toNat) default).hi) + 1))) then
            zr zO zP zT (zJ.set ((w64 (((zJ.length : Nat) : Int) - 1)).toNat) (⟨(zJ.getD ((w64 (((zJ.length : Nat) : Int) - 1)).toNat) default).lo, zC ((zJ.getD ((w64 (((zJ.length : Nat) : Int) - 1)).toNat) default).hi) ((GS.at zO zK).hi)⟩ : S_Span)) (w64 (zK + 1)) zN
          else
            zr zO zP zT (zJ ++ [(GS.at zO zK)]) (w64 (zK + 1)) zN
        else
          zr zO zP zT (zJ ++ [(GS.at zO zK)]) (w64 (zK + 1)) zN
      else
        bif decide (((GS.at zO zK).lo) ≤ ((GS.at zP zN).lo)) then
          bif decide (((zJ.length : Nat) : Int) > 0) then
            bif decide (((GS.at zO zK).lo) ≤ (w64 (((zJ.getD ((w64 (((zJ.length : Nat) : Int) - 1)).toNat) default).hi) + 1))) then
              zr zO zP zT (zJ.set ((w64 (((zJ.length : Nat) : Int) - 1)).toNat) (⟨(zJ.getD ((w64 (((zJ.length : Nat) : Int) - 1)).toNat) default).lo, zC ((zJ.getD ((w64 (((zJ.length : Nat) : Int) - 1)).toNat) default).hi) ((GS.at zO zK).hi)⟩ : S_Span)) (w64 (zK + 1)) zN
            else
              zr zO zP zT (zJ ++ [(GS.at zO zK)]) (w64 (zK + 1)) zN
          else
            zr zO zP zT (zJ ++ [(GS.at zO zK)]) (w64 (zK + 1)) zN
        else
          bif decide (((zJ.length : Nat) : Int) > 0) then
            bif decide (((GS.at zP zN).lo) ≤ (w64 (((zJ.getD ((w64 (((zJ.length : Nat) : Int) - 1)).toNat) default).hi) + 1))) then
              zr zO zP zT (zJ.set ((w64 (((zJ.length : Nat) : Int) - 1)).toNat) (⟨(zJ.getD ((w64 (((zJ.length : Nat) : Int) - 1)).toNat) default).lo, zC ((zJ.getD ((w64 (((zJ.length : Nat) : Int) - 1)).toNat) default).hi) ((GS.at zP zN).hi)⟩ : S_Span)) zK (w64 (zN + 1))
            else
              zr zO zP zT (zJ ++ [(GS.at zP zN)]) zK (w64 (zN + 1))
          else
            zr zO zP zT (zJ ++ [(GS.at zP zN)]) zK (w64 (zN + 1))
    else
      bif decide (zN < ((zP.l.length : Nat) : Int)) then
        bif (zN == ((zP.l.length : Nat) : Int)) then
          bif decide (((zJ.length : Nat) : Int) > 0) then
            bif decide (((GS.at zO zK).lo) ≤ (w64 (((zJ.getD ((w64 (((zJ.length : Nat) : Int) - 1)).toNat) default).hi) + 1))) then
              zr zO zP zT (zJ.set ((w64 (((zJ.length : Nat) : Int) - 1)).toNat) (⟨(zJ.getD ((w64 (((zJ.length : Nat) : Int) - 1)).toNat) default).lo, zC ((zJ.getD ((w64 (((zJ.length : Nat) : Int) - 1)).toNat) default).hi) ((GS.at zO zK).hi)⟩ : S_Span)) (w64 (zK + 1)) zN
            else
              zr zO zP zT (zJ ++ [(GS.at zO zK)]) (w64 (zK + 1)) zN
          else
            zr zO zP zT (zJ ++ [(GS.at zO zK)]) (w64 (zK + 1)) zN
        else
          bif decide (((zJ.length : Nat) : Int) > 0) then
            bif decide (((GS.at zP zN).lo) ≤ (w64 (((zJ.getD ((w64 (((zJ.length : Nat) : Int) - 1)).toNat) default).hi) + 1))) then
              zr zO zP zT (zJ.set ((w64 (((zJ.length : Nat) : Int) - 1)).toNat) (⟨(zJ.getD ((w64 (((zJ.length : Nat) : Int) - 1)).toNat) default).lo, zC ((zJ.getD ((w64 (((zJ.length : Nat) : Int) - 1)).toNat) default).hi) ((GS.at zP zN).hi)⟩ : S_Span)) zK (w64 (zN + 1))
            else
              zr zO zP zT (zJ ++ [(GS.at zP zN)]) zK (w64 (zN + 1))
          else
            zr zO zP zT (zJ ++ [(GS.at zP zN)]) zK (w64 (zN + 1))
      else
        .x0 zJ zK zN
def r_Join_8 (zO : GS S_Span) (zP : GS S_Span) : Nat → LR_r_Join_8
  | 0 => .out
  | zT + 1 =>
    bif decide (0 < ((zO.l.length : Nat) : Int)) then
      bif (0 == ((zP.l.length : Nat) : Int)) then
        zr zO zP zT [(GS.at zO 0)] 1 0
      else
        bif decide (((GS.at zO 0).lo) ≤ ((GS.at zP 0).lo)) then
          zr zO zP zT [(GS.at zO 0)] 1 0
        else
          zr zO zP zT [(GS.at zP 0)] 0 1
    else
      bif decide (0 < ((zP.l.length : Nat) : Int)) then
        bif (0 == ((zP.l.length : Nat) : Int)) then
          zr zO zP zT [(GS.at zO 0)] 1 0
        else
          zr zO zP zT [(GS.at zP 0)] 0 1
      else
        .x1
def lr_r_Join_8 (zO : GS S_Span) (zP : GS S_Span) : LR_r_Join_8 → Exit × St
  | .x0 zJ zK zN => ((.exit 0), ⟨107, [(35, B false), (34, B false), (33, I ((zP.l.length : Nat) : Int)), (32, .sl zP.nl (zP.l.map S_Span.D) (zsl zP.nl 2) none), (31, I zN), (30, B false), (29, B false), (28, I ((zO.l.length : Nat) : Int)), (27, .sl zO.nl (zO.l.map S_Span.D) (zsl zO.nl 2) none), (26, I zK), (3, .sl zO.nl (zO.l.map S_Span.D) (zsl zO.nl 2) none), (4, .sl zP.nl (zP.l.map S_Span.D) (zsl zP.nl 2) none), (5, .lsl 0 0 zJ.length 2 none), (6, I zK), (7, I zN)], [(0, ⟨zJ.map S_Span.D, 2, false⟩)], 1, 0⟩)
  | .x1 => ((.exit 0), ⟨107, [(35, B false), (34, B false), (33, I ((zP.l.length : Nat) : Int)), (32, .sl zP.nl (zP.l.map S_Span.D) (zsl zP.nl 2) none), (31, I 0), (30, B false), (29, B false), (28, I ((zO.l.length : Nat) : Int)), (27, .sl zO.nl (zO.l.map S_Span.D) (zsl zO.nl 2) none), (26, I 0), (3, .sl zO.nl (zO.l.map S_Span.D) (zsl zO.nl 2) none), (4, .sl zP.nl (zP.l.map S_Span.D) (zsl zP.nl 2) none), (5, .sl true [] 0 none), (6, I 0), (7, I 0)], [], 0, 0⟩)
  | .out => (.normal, ⟨0, [], [], 0, 0⟩)
def iv_r_Join_8 (zO : GS S_Span) (zP : GS S_Span) : LR_r_Join_8 → Prop
  | .x0 zJ zK zN => (0 ≤ zK ∧ zK ≤ ((zO.l.length : Nat) : Int)) ∧ (0 ≤ zN ∧ zN ≤ ((zP.l.length : Nat) : Int)) ∧ (1 ≤ zJ.length ∧ ((zJ.length : Nat) : Int) ≤ zK + zN)
  | .x1 => True
  | .out => True
def r_Join_8a_f_o1 (zO : GS S_Span) (zP : GS S_Span) (zK : Int) : List Ora := [.rw 28 (I ((zO.l.length : Nat) : Int)), .dec true, .rw 39 (I ((zP.l.length : Nat) : Int)), .dec true, .el (.agg [I ((GS.at zO zK).lo), I ((GS.at zO zK).hi)])]
def r_Join_8a_f_o2 (zJ : List S_Span) : List Ora := [.dec true, .op (some 82) ⟨.lref 0 ((w64 (((zJ.length : Nat) : Int) - 1)).toNat) 2 0, [], [], 2⟩, .op (some 84) ⟨I ((zJ.getD ((w64 (((zJ.length : Nat) : Int) - 1)).toNat) default).hi), [], [0], 2⟩]
def r_Join_8a_f_o3 (zO : GS S_Span) (zP : GS S_Span) (zK : Int) (zN : Int) : List Ora := [.rw 28 (I ((zO.l.length : Nat) : Int)), .dec true, .rw 39 (I ((zP.l.length : Nat) : Int)), .dec false, .rw 44 (I ((zO.l.length : Nat) : Int)), .dec true, .el (.agg [I ((GS.at zO zK).lo), I ((GS.at zO zK).hi)]), .el (.agg [I ((GS.at zP zN).lo), I ((GS.at zP zN).hi)])]
def r_Join_8a_f_o4 (zO : GS S_Span) (zJ : List S_Span) (zK : Int) : List Ora := [.dec true, .el (.agg [I ((GS.at zO zK).lo), I ((GS.at zO zK).hi)]), .dec true, .op (some 82) ⟨.lref 0 ((w64 (((zJ.length : Nat) : Int) - 1)).toNat) 2 0, [], [], 2⟩, .op (some 84) ⟨I ((zJ.getD ((w64 (((zJ.length : Nat) : Int) - 1)).toNat) default).hi), [], [0], 2⟩]
def r_Join_8a_f_o5 (zP : GS S_Span) (zJ : List S_Span) (zN : Int) : List Ora := [.dec false, .el (.agg [I ((GS.at zP zN).lo), I ((GS.at zP zN).hi)]), .dec true, .op (some 82) ⟨.lref 0 ((w64 (((zJ.length : Nat) : Int) - 1)).toNat) 2 0, [], [], 2⟩, .op (some 84) ⟨I ((zJ.getD ((w64 (((zJ.length : Nat) : Int) - 1)).toNat) default).hi), [], [0], 2⟩]
def r_Join_8a_f_o6 (zO : GS S_Span) (zP : GS S_Span) : List Ora := [.rw 28 (I ((zO.l.length : Nat) : Int)), .dec false, .rw 33 (I ((zP.l.length : Nat) : Int)), .dec true, .rw 39 (I ((zP.l.length : Nat) : Int))]
def r_Join_8a_f_o7 (zO : GS S_Span) (zJ : List S_Span) (zK : Int) : List Ora := [.dec true, .el (.agg [I ((GS.at zO zK).lo), I ((GS.at zO zK).hi)]), .dec true, .op (some 82) ⟨.lref 0 ((w64 (((zJ.length : Nat) : Int) - 1)).toNat) 2 0, [], [], 2⟩, .op (some 84) ⟨I ((zJ.getD ((w64 (((zJ.length : Nat) : Int) - 1)).toNat) default).hi), [], [0], 2⟩]
def r_Join_8a_f_o8 (zO : GS S_Span) (zP : GS S_Span) (zN : Int) : List Ora := [.dec false, .rw 44 (I ((zO.l.length : Nat) : Int)), .dec false, .el (.agg [I ((GS.at zP zN).lo), I ((GS.at zP zN).hi)])]
def r_Join_8a_f_o9 (zJ : List S_Span) : List Ora := [.dec true, .op (some 82) ⟨.lref 0 ((w64 (((zJ.length : Nat) : Int) - 1)).toNat) 2 0, [], [], 2⟩, .op (some 84) ⟨I ((zJ.getD ((w64 (((zJ.length : Nat) : Int) - 1)).toNat) default).hi), [], [0], 2⟩]
theorem lp_r_Join_8a (zO : GS S_Span) (zP : GS S_Span) : ∀ (zT : Nat) (zJ : List S_Span) (zK : Int) (zN : Int) (hf8 : zr zO zP zT zJ zK zN ≠ .out) (ha32 : zO.l.length ≤ 1073741824) (hb32 : zP.l.length ≤ 1073741824) (hi1 : 0 ≤ zK ∧ zK ≤ ((zO.l.length : Nat) : Int)) (hk1 : 0 ≤ zN ∧ zN ≤ ((zP.l.length : Nat) : Int)) (ho1 : 1 ≤ zJ.length ∧ ((zJ.length : Nat) : Int) ≤ zK + zN), (lim cfg).loop 75 lp75_8 ⟨107, [(3, .sl zO.nl (zO.l.map S_Span.D) (zsl zO.nl 2) none), (4, .sl zP.nl (zP.l.map S_Span.D) (zsl zP.nl 2) none), (5, .lsl 0 0 zJ.length 2 none), (6, I zK), (7, I zN)], [(0, ⟨zJ.map S_Span.D, 2, false⟩)], 1, 0⟩ = some (lr_r_Join_8 zO zP (zr zO zP zT zJ zK zN)) := by
  intro zT
  induction zT with
  | zero =>
    intro zJ zK zN hf8 ha32 hb32 hi1 hk1 ho1
    exact absurd rfl hf8
  | succ zT ih =>
    intro zJ zK zN hf8 ha32 hb32 hi1 hk1 ho1
    unfold zr at hf8 ⊢
    revert hf8
    cases h22 : decide (zK < ((zO.l.length : Nat) : Int)) with
    | true =>
      have g22 := of_decide_eq_true h22
      cases h23 : (zN == ((zP.l.length : Nat) : Int)) with
      | true =>
        have g23 := eq_of_beq h23
        have p1 := (el_in (s := zO) (f := S_Span.D) (k := 2) (i := zK) (by omega) (by omega))
        cases h24 : decide (((zJ.length : Nat) : Int) > 0) with
        | true =>
          have g24 := of_decide_eq_true h24
          have p2 := (idx_row (C := cfg) (nxt := 2) (t := 22) (ty := ty22) (te := ty25) (e := 25) (o := 0) (len := zJ.length) (sz := 2) (cap := none) (i := w64 (((zJ.length : Nat) : Int) - 1)) (by kernel_rfl) rfl (by kernel_rfl) rfl (by simp only [List.length_append, List.length_cons, List.length_nil, za] at * <;> omega) (by simp only [List.length_append, List.length_cons, List.length_nil, za] at * <;> omega))
          have p3 := (load_row (C := cfg) (objs := [(0, ⟨zJ.map S_Span.D, 2, false⟩), (1, ⟨[.agg [I ((GS.at zO zK).lo), I ((GS.at zO zK).hi)]], 2, false⟩)]) (nxt := 2) (t := 3) (ty := ty3) (o := 0) (n := (w64 (((zJ.length : Nat) : Int) - 1)).toNat) (sz := 2) (sub := 1) (ob := ⟨zJ.map S_Span.D, 2, false⟩) (e := S_Span.D (zJ.getD ((w64 (((zJ.length : Nat) : Int) - 1)).toNat) default)) (d := I ((zJ.getD ((w64 (((zJ.length : Nat) : Int) - 1)).toNat) default).hi)) (by kernel_rfl) (by kernel_rfl) rfl (row_get (f := S_Span.D) (by simp only [List.length_append, List.length_cons, List.length_nil, za] at * <;> omega)) (by kernel_rfl))
          cases h25 : decide (((GS.at zO zK).lo) ≤ (w64 (((zJ.getD ((w64 (((zJ.length : Nat) : Int) - 1)).toNat) default).hi) + 1))) with
          | true =>
            have g25 := of_decide_eq_true h25
            intro hf8
            exact po_turn' (ks := [3, 4, 5, 6, 7]) (st' := (sd20285 zO zP zJ zK zN)) ((r_Join_8a_f_o1 zO zP zK) ++ ((r_Join_8a_f_o2 zJ) ++ [.dec true, .op (some 94) ⟨.lref 0 ((w64 (((zJ.length : Nat) : Int) - 1)).toNat) 2 0, [], [], 2⟩, .op (some 96) ⟨I ((zJ.getD ((w64 (((zJ.length : Nat) : Int) - 1)).toNat) default).hi), [], [0], 2⟩, .op (some 100) ⟨.lref 0 ((w64 (((zJ.length : Nat) : Int) - 1)).toNat) 2 0, [], [], 2⟩, .stS 0 ⟨.tup [], [(0, some ⟨(zJ.set ((w64 (((zJ.length : Nat) : Int) - 1)).toNat) (⟨(zJ.getD ((w64 (((zJ.length : Nat) : Int) - 1)).toNat) default).lo, zC ((zJ.getD ((w64 (((zJ.length : Nat) : Int) - 1)).toNat) default).hi) ((GS.at zO zK).hi)⟩ : S_Span)).map S_Span.D, 2, false⟩)], [0], 2⟩])) (And.intro (store_row (C := cfg) (objs := [(0, ⟨zJ.map S_Span.D, 2, false⟩), (1, ⟨[.agg [I ((GS.at zO zK).lo), I ((GS.at zO zK).hi)]], 2, false⟩)]) (nxt := 2) (t := 3) (ty := ty3) (o := 0) (n := (w64 (((zJ.length : Nat) : Int) - 1)).toNat) (sz := 2) (sub := 1) (els := zJ.map S_Span.D) (els' := (zJ.set ((w64 (((zJ.length : Nat) : Int) - 1)).toNat) (⟨(zJ.getD ((w64 (((zJ.length : Nat) : Int) - 1)).toNat) default).lo, zC ((zJ.getD ((w64 (((zJ.length : Nat) : Int) - 1)).toNat) default).hi) ((GS.at zO zK).hi)⟩ : S_Span)).map S_Span.D) (e := S_Span.D (zJ.getD ((w64 (((zJ.length : Nat) : Int) - 1)).toNat) default)) (e' := S_Span.D (⟨(zJ.getD ((w64 (((zJ.length : Nat) : Int) - 1)).toNat) default).lo, zC ((zJ.getD ((w64 (((zJ.length : Nat) : Int) - 1)).toNat) default).hi) ((GS.at zO zK).hi)⟩ : S_Span)) (v := I (zC ((zJ.getD ((w64 (((zJ.length : Nat) : Int) - 1)).toNat) default).hi) ((GS.at zO zK).hi))) (by kernel_rfl) (by kernel_rfl) (row_get (f := S_Span.D) (by simp only [List.length_append, List.length_cons, List.length_nil, za] at * <;> omega)) rfl (by kernel_rfl) rfl (by kernel_rfl) (row_set (f := S_Span.D))) (And.intro (idx_row (C := cfg) (nxt := 2) (t := 22) (ty := ty22) (te := ty25) (e := 25) (o := 0) (len := zJ.length) (sz := 2) (cap := none) (i := w64 (((zJ.length : Nat) : Int) - 1)) (by kernel_rfl) rfl (by kernel_rfl) rfl (by simp only [List.length_append, List.length_cons, List.length_nil, za] at * <;> omega) (by simp only [List.length_append, List.length_cons, List.length_nil, za] at * <;> omega)) (And.intro (load_row (C := cfg) (objs := [(0, ⟨zJ.map S_Span.D, 2, false⟩), (1, ⟨[.agg [I ((GS.at zO zK).lo), I ((GS.at zO zK).hi)]], 2, false⟩)]) (nxt := 2) (t := 3) (ty := ty3) (o := 0) (n := (w64 (((zJ.length : Nat) : Int) - 1)).toNat) (sz := 2) (sub := 1) (ob := ⟨zJ.map S_Span.D, 2, false⟩) (e := S_Span.D (zJ.getD ((w64 (((zJ.length : Nat) : Int) - 1)).toNat) default)) (d := I ((zJ.getD ((w64 (((zJ.length : Nat) : Int) - 1)).toNat) default).hi)) (by kernel_rfl) (by kernel_rfl) rfl (row_get (f := S_Span.D) (by simp only [List.length_append, List.length_cons, List.length_nil, za] at * <;> omega)) (by kernel_rfl)) (And.intro (idx_row (C := cfg) (nxt := 2) (t := 22) (ty := ty22) (te := ty25) (e := 25) (o := 0) (len := zJ.length) (sz := 2) (cap := none) (i := w64 (((zJ.length : Nat) : Int) - 1)) (by kernel_rfl) rfl (by kernel_rfl) rfl (by simp only [List.length_append, List.length_cons, List.length_nil, za] at * <;> omega) (by simp only [List.length_append, List.length_cons, List.length_nil, za] at * <;> omega)) (And.intro h25 (And.intro p3 (And.intro p2 (And.intro h24 (And.intro p1 (And.intro h23 (And.intro (zb S_Span.D zP) (And.intro h22 (And.intro (zb S_Span.D zO) trivial))))))))))))) (by kernel_rfl) (by (simp only [sd20285, go_sem, List.length_set, Nat.reduceAdd, Nat.reduceEqDiff, Nat.reduceLT, Nat.reduceLeDiff, bI2, zi.idsL, zi.renL, zi.snapAll, z7.idsL, z7.renL, z7.snapAll]) <;> rfl) (ih (zJ.set ((w64 (((zJ.length : Nat) : Int) - 1)).toNat) (⟨(zJ.getD ((w64 (((zJ.length : Nat) : Int) - 1)).toNat) default).lo, zC ((zJ.getD ((w64 (((zJ.length : Nat) : Int) - 1)).toNat) default).hi) ((GS.at zO zK).hi)⟩ : S_Span)) (w64 (zK + 1)) zN hf8 (by omega) (by omega) (by simp only [List.length_append, List.length_cons, List.length_nil, za] at * <;> omega) (by omega) (by simp only [srtL, zd, GS.some_l, List.length_set, List.length_append, List.length_cons, List.length_nil, za] at * <;> first | with_reducible assumption | omega)) (by kernel_rfl)
          | false =>
            have g25 := of_decide_eq_false h25
            intro hf8
            exact po_turn' (ks := [3, 4, 5, 6, 7]) (st' := (sd20286 zO zP zJ zK zN)) ((r_Join_8a_f_o1 zO zP zK) ++ ((r_Join_8a_f_o2 zJ) ++ [.dec false, .op (some 105) ⟨.lsl 3 0 ((zJ ++ [(GS.at zO zK)]).length) 2 none, [(0, none), (3, some ⟨(zJ ++ [(GS.at zO zK)]).map S_Span.D, 2, false⟩)], [0, 2], 4⟩])) (And.intro (app_row (f := S_Span.D) (te := ty25) (gO := zj [(0, ⟨zJ.map S_Span.D, 2, false⟩), (1, ⟨[.agg [I ((GS.at zO zK).lo), I ((GS.at zO zK).hi)]], 2, false⟩), (2, ⟨[.agg [I ((GS.at zO zK).lo), I ((GS.at zO zK).hi)]], 2, false⟩)]) (nxt := 3) (o := 0) (o2 := 2) (fz := false) z7 zJ (GS.at zO zK) (by kernel_rfl) (by kernel_rfl) rfl (by kernel_rfl) (by decide) ⟨by simp only [ty25, big] <;> (first | assumption | omega | (exact two_bd (by omega) (by omega)) | (exact add_some (by omega)) | (exact add_some' (by omega)) | (exact one_some (by omega)) | (exact one_some' (by omega)) | (exact zA _ (by omega)) | (exact Nat.le_trans (hJl _) (by rw [zd]; omega)) | (simp only [za] at * <;> omega) | (simp only [srtL, zd, GS.some_l, List.length_set, List.length_append, List.length_cons, List.length_nil] at * <;> first | with_reducible assumption | omega) | (simp only [srtL, zd, GS.some_l, List.length_set, List.length_append, List.length_cons, List.length_nil, za] at * <;> first | with_reducible assumption | omega) | (simp at * <;> omega)), by simp only [big] <;> (first | assumption | omega | (exact two_bd (by omega) (by omega)) | (exact add_some (by omega)) | (exact add_some' (by omega)) | (exact one_some (by omega)) | (exact one_some' (by omega)) | (exact zA _ (by omega)) | (exact Nat.le_trans (hJl _) (by rw [zd]; omega)) | (simp only [za] at * <;> omega) | (simp only [srtL, zd, GS.some_l, List.length_set, List.length_append, List.length_cons, List.length_nil] at * <;> first | with_reducible assumption | omega) | (simp only [srtL, zd, GS.some_l, List.length_set, List.length_append, List.length_cons, List.length_nil, za] at * <;> first | with_reducible assumption | omega) | (simp at * <;> omega))⟩) (And.intro h25 (And.intro p3 (And.intro p2 (And.intro h24 (And.intro p1 (And.intro h23 (And.intro (zb S_Span.D zP) (And.intro h22 (And.intro (zb S_Span.D zO) trivial)))))))))) (by kernel_rfl) (by (simp only [sd20286, go_sem, List.length_set, Nat.reduceAdd, Nat.reduceEqDiff, Nat.reduceLT, Nat.reduceLeDiff, bI2, zi.idsL, zi.renL, zi.snapAll, z7.idsL, z7.renL, z7.snapAll]) <;> rfl) (ih (zJ ++ [(GS.at zO zK)]) (w64 (zK + 1)) zN hf8 (by omega) (by omega) (by simp only [List.length_append, List.length_cons, List.length_nil, za] at * <;> omega) (by omega) (by simp only [List.length_append, List.length_cons, List.length_nil, za] at * <;> omega)) (by kernel_rfl)
        | false =>
          have g24 := of_decide_eq_false h24
          intro hf8
          exact po_turn' (ks := [3, 4, 5, 6, 7]) (st' := (sd20287 zO zP zJ zK zN)) ((r_Join_8a_f_o1 zO zP zK) ++ [.dec false, .op (some 105) ⟨.lsl 3 0 ((zJ ++ [(GS.at zO zK)]).length) 2 none, [(0, none), (3, some ⟨(zJ ++ [(GS.at zO zK)]).map S_Span.D, 2, false⟩)], [0, 2], 4⟩]) (And.intro (app_row (f := S_Span.D) (te := ty25) (gO := zj [(0, ⟨zJ.map S_Span.D, 2, false⟩), (1, ⟨[.agg [I ((GS.at zO zK).lo), I ((GS.at zO zK).hi)]], 2, false⟩), (2, ⟨[.agg [I ((GS.at zO zK).lo), I ((GS.at zO zK).hi)]], 2, false⟩)]) (nxt := 3) (o := 0) (o2 := 2) (fz := false) z7 zJ (GS.at zO zK) (by kernel_rfl) (by kernel_rfl) rfl (by kernel_rfl) (by decide) ⟨by simp only [ty25, big] <;> (first | assumption | omega | (exact two_bd (by omega) (by omega)) | (exact add_some (by omega)) | (exact add_some' (by omega)) | (exact one_some (by omega)) | (exact one_some' (by omega)) | (exact zA _ (by omega)) | (exact Nat.le_trans (hJl _) (by rw [zd]; omega)) | (simp only [za] at * <;> omega) | (simp only [srtL, zd, GS.some_l, List.length_set, List.length_append, List.length_cons, List.length_nil] at * <;> first | with_reducible assumption | omega) | (simp only [srtL, zd, GS.some_l, List.length_set, List.length_append, List.length_cons, List.length_nil, za] at * <;> first | with_reducible assumption | omega) | (simp at * <;> omega)), by simp only [big] <;> (first | assumption | omega | (exact two_bd (by omega) (by omega)) | (exact add_some (by omega)) | (exact add_some' (by omega)) | (exact one_some (by omega)) | (exact one_some' (by omega)) | (exact zA _ (by omega)) | (exact Nat.le_trans (hJl _) (by rw [zd]; omega)) | (simp only [za] at * <;> omega) | (simp only [srtL, zd, GS.some_l, List.length_set, List.length_append, List.length_cons, List.length_nil] at * <;> first | with_reducible assumption | omega) | (simp only [srtL, zd, GS.some_l, List.length_set, List.length_append, List.length_cons, List.length_nil, za] at * <;> first | with_reducible assumption | omega) | (simp at * <;> omega))⟩) (And.intro h24 (And.intro p1 (And.intro h23 (And.intro (zb S_Span.D zP) (And.intro h22 (And.intro (zb S_Span.D zO) trivial))))))) (by kernel_rfl) (by (simp only [sd20287, go_sem, List.length_set, Nat.reduceAdd, Nat.reduceEqDiff, Nat.reduceLT, Nat.reduceLeDiff, bI2, zi.idsL, zi.renL, zi.snapAll, z7.idsL, z7.renL, z7.snapAll]) <;> rfl) (ih (zJ ++ [(GS.at zO zK)]) (w64 (zK + 1)) zN hf8 (by omega) (by omega) (by omega) (by omega) (by omega)) (by kernel_rfl)
      | false =>
        have g23 := ne_of_beq_false h23
        have p4 := (el_in (s := zO) (f := S_Span.D) (k := 2) (i := zK) (by omega) (by omega))
        have p5 := (el_in (s := zP) (f := S_Span.D) (k := 2) (i := zN) (by omega) (by omega))
        cases h26 : decide (((GS.at zO zK).lo) ≤ ((GS.at zP zN).lo)) with
        | true =>
          have g26 := of_decide_eq_true h26
          have p6 := (el_in (s := zO) (f := S_Span.D) (k := 2) (i := zK) (by omega) (by omega))
          cases h27 : decide (((zJ.length : Nat) : Int) > 0) with
          | true =>
            have g27 := of_decide_eq_true h27
            have p7 := (idx_row (C := cfg) (nxt := 2) (t := 22) (ty := ty22) (te := ty25) (e := 25) (o := 0) (len := zJ.length) (sz := 2) (cap := none) (i := w64 (((zJ.length : Nat) : Int) - 1)) (by kernel_rfl) rfl (by kernel_rfl) rfl (by simp only [List.length_append, List.length_cons, List.length_nil, za] at * <;> omega) (by simp only [List.length_append, List.length_cons, List.length_nil, za] at * <;> omega))
            have p8 := (load_row (C := cfg) (objs := [(0, ⟨zJ.map S_Span.D, 2, false⟩), (1, ⟨[.agg [I ((GS.at zO zK).lo), I ((GS.at zO zK).hi)]], 2, false⟩)]) (nxt := 2) (t := 3) (ty := ty3) (o := 0) (n := (w64 (((zJ.length : Nat) : Int) - 1)).toNat) (sz := 2) (sub := 1) (ob := ⟨zJ.map S_Span.D, 2, false⟩) (e := S_Span.D (zJ.getD ((w64 (((zJ.length : Nat) : Int) - 1)).toNat) default)) (d := I ((zJ.getD ((w64 (((zJ.length : Nat) : Int) - 1)).toNat) default).hi)) (by kernel_rfl) (by kernel_rfl) rfl (row_get (f := S_Span.D) (by simp only [List.length_append, List.length_cons, List.length_nil, za] at * <;> omega)) (by kernel_rfl))
            cases h28 : decide (((GS.at zO zK).lo) ≤ (w64 (((zJ.getD ((w64 (((zJ.length : Nat) : Int) - 1)).toNat) default).hi) + 1))) with
            | true =>
              have g28 := of_decide_eq_true h28
              intro hf8
              exact po_turn' (ks := [3, 4, 5, 6, 7]) (st' := (sd20288 zO zP zJ zK zN)) ((r_Join_8a_f_o3 zO zP zK zN) ++ ((r_Join_8a_f_o4 zO zJ zK) ++ [.dec true, .op (some 94) ⟨.lref 0 ((w64 (((zJ.length : Nat) : Int) - 1)).toNat) 2 0, [], [], 2⟩, .op (some 96) ⟨I ((zJ.getD ((w64 (((zJ.length : Nat) : Int) - 1)).toNat) default).hi), [], [0], 2⟩, .op (some 100) ⟨.lref 0 ((w64 (((zJ.length : Nat) : Int) - 1)).toNat) 2 0, [], [], 2⟩, .stS 0 ⟨.tup [], [(0, some ⟨(zJ.set ((w64 (((zJ.length : Nat) : Int) - 1)).toNat) (⟨(zJ.getD ((w64 (((zJ.length : Nat) : Int) - 1)).toNat) default).lo, zC ((zJ.getD ((w64 (((zJ.length : Nat) : Int) - 1)).toNat) default).hi) ((GS.at zO zK).hi)⟩ : S_Span)).map S_Span.D, 2, false⟩)], [0], 2⟩])) (And.intro (store_row (C := cfg) (objs := [(0, ⟨zJ.map S_Span.D, 2, false⟩), (1, ⟨[.agg [I ((GS.at zO zK).lo), I ((GS.at zO zK).hi)]], 2, false⟩)]) (nxt := 2) (t := 3) (ty := ty3) (o := 0) (n := (w64 (((zJ.length : Nat) : Int) - 1)).toNat) (sz := 2) (sub := 1) (els := zJ.map S_Span.D) (els' := (zJ.set ((w64 (((zJ.length : Nat) : Int) - 1)).toNat) (⟨(zJ.getD ((w64 (((zJ.length : Nat) : Int) - 1)).toNat) default).lo, zC ((zJ.getD ((w64 (((zJ.length : Nat) : Int) - 1)).toNat) default).hi) ((GS.at zO zK).hi)⟩ : S_Span)).map S_Span.D) (e := S_Span.D (zJ.getD ((w64 (((zJ.length : Nat) : Int) - 1)).toNat) default)) (e' := S_Span.D (⟨(zJ.getD ((w64 (((zJ.length : Nat) : Int) - 1)).toNat) default).lo, zC ((zJ.getD ((w64 (((zJ.length : Nat) : Int) - 1)).toNat) default).hi) ((GS.at zO zK).hi)⟩ : S_Span)) (v := I (zC ((zJ.getD ((w64 (((zJ.length : Nat) : Int) - 1)).toNat) default).hi) ((GS.at zO zK).hi))) (by kernel_rfl) (by kernel_rfl) (row_get (f := S_Span.D) (by simp only [List.length_append, List.length_cons, List.length_nil, za] at * <;> omega)) rfl (by kernel_rfl) rfl (by kernel_rfl) (row_set (f := S_Span.D))) (And.intro (idx_row (C := cfg) (nxt := 2) (t := 22) (ty := ty22) (te := ty25) (e := 25) (o := 0) (len := zJ.length) (sz := 2) (cap := none) (i := w64 (((zJ.length : Nat) : Int) - 1)) (by kernel_rfl) rfl (by kernel_rfl) rfl (by simp only [List.length_append, List.length_cons, List.length_nil, za] at * <;> omega) (by simp only [List.length_append, List.length_cons, List.length_nil, za] at * <;> omega)) (And.intro (load_row (C := cfg) (objs := [(0, ⟨zJ.map S_Span.D, 2, false⟩), (1, ⟨[.agg [I ((GS.at zO zK).lo), I ((GS.at zO zK).hi)]], 2, false⟩)]) (nxt := 2) (t := 3) (ty := ty3) (o := 0) (n := (w64 (((zJ.length : Nat) : Int) - 1)).toNat) (sz := 2) (sub := 1) (ob := ⟨zJ.map S_Span.D, 2, false⟩) (e := S_Span.D (zJ.getD ((w64 (((zJ.length : Nat) : Int) - 1)).toNat) default)) (d := I ((zJ.getD ((w64 (((zJ.length : Nat) : Int) - 1)).toNat) default).hi)) (by kernel_rfl) (by kernel_rfl) rfl (row_get (f := S_Span.D) (by simp only [List.length_append, List.length_cons, List.length_nil, za] at * <;> omega)) (by kernel_rfl)) (And.intro (idx_row (C := cfg) (nxt := 2) (t := 22) (ty := ty22) (te := ty25) (e := 25) (o := 0) (len := zJ.length) (sz := 2) (cap := none) (i := w64 (((zJ.length : Nat) : Int) - 1)) (by kernel_rfl) rfl (by kernel_rfl) rfl (by simp only [List.length_append, List.length_cons, List.length_nil, za] at * <;> omega) (by simp only [List.length_append, List.length_cons, List.length_nil, za] at * <;> omega)) (And.intro h28 (And.intro p8 (And.intro p7 (And.intro h27 (And.intro p6 (And.intro h26 (And.intro p5 (And.intro p4 (And.intro h22 (And.intro (zb S_Span.D zO) (And.intro h23 (And.intro (zb S_Span.D zP) (And.intro h22 (And.intro (zb S_Span.D zO) trivial)))))))))))))))))) (by kernel_rfl) (by (simp only [sd20288, go_sem, List.length_set, Nat.reduceAdd, Nat.reduceEqDiff, Nat.reduceLT, Nat.reduceLeDiff, bI2, zi.idsL, zi.renL, zi.snapAll, z7.idsL, z7.renL, z7.snapAll]) <;> rfl) (ih (zJ.set ((w64 (((zJ.length : Nat) : Int) - 1)).toNat) (⟨(zJ.getD ((w64 (((zJ.length : Nat) : Int) - 1)).toNat) default).lo, zC ((zJ.getD ((w64 (((zJ.length : Nat) : Int) - 1)).toNat) default).hi) ((GS.at zO zK).hi)⟩ : S_Span)) (w64 (zK + 1)) zN hf8 (by omega) (by omega) (by simp only [List.length_append, List.length_cons, List.length_nil, za] at * <;> omega) (by omega) (by simp only [srtL, zd, GS.some_l, List.length_set, List.length_append, List.length_cons, List.length_nil, za] at * <;> first | with_reducible assumption | omega)) (by kernel_rfl)
            | false =>
              have g28 := of_decide_eq_false h28
              intro hf8
              exact po_turn' (ks := [3, 4, 5, 6, 7]) (st' := (sd20289 zO zP zJ zK zN)) ((r_Join_8a_f_o3 zO zP zK zN) ++ ((r_Join_8a_f_o4 zO zJ zK) ++ [.dec false, .op (some 105) ⟨.lsl 3 0 ((zJ ++ [(GS.at zO zK)]).length) 2 none, [(0, none), (3, some ⟨(zJ ++ [(GS.at zO zK)]).map S_Span.D, 2, false⟩)], [0, 2], 4⟩])) (And.intro (app_row (f := S_Span.D) (te := ty25) (gO := zj [(0, ⟨zJ.map S_Span.D, 2, false⟩), (1, ⟨[.agg [I ((GS.at zO zK).lo), I ((GS.at zO zK).hi)]], 2, false⟩), (2, ⟨[.agg [I ((GS.at zO zK).lo), I ((GS.at zO zK).hi)]], 2, false⟩)]) (nxt := 3) (o := 0) (o2 := 2) (fz := false) z7 zJ (GS.at zO zK) (by kernel_rfl) (by kernel_rfl) rfl (by kernel_rfl) (by decide) ⟨by simp only [ty25, big] <;> (first | assumption | omega | (exact two_bd (by omega) (by omega)) | (exact add_some (by omega)) | (exact add_some' (by omega)) | (exact one_some (by omega)) | (exact one_some' (by omega)) | (exact zA _ (by omega)) | (exact Nat.le_trans (hJl _) (by rw [zd]; omega)) | (simp only [za] at * <;> omega) | (simp only [srtL, zd, GS.some_l, List.length_set, List.length_append, List.length_cons, List.length_nil] at * <;> first | with_reducible assumption | omega) | (simp only [srtL, zd, GS.some_l, List.length_set, List.length_append, List.length_cons, List.length_nil, za] at * <;> first | with_reducible assumption | omega) | (simp at * <;> omega)), by simp only [big] <;> (first | assumption | omega | (exact two_bd (by omega) (by omega)) | (exact add_some (by omega)) | (exact add_some' (by omega)) | (exact one_some (by omega)) | (exact one_some' (by omega)) | (exact zA _ (by omega)) | (exact Nat.le_trans (hJl _) (by rw [zd]; omega)) | (simp only [za] at * <;> omega) | (simp only [srtL, zd, GS.some_l, List.length_set, List.length_append, List.length_cons, List.length_nil] at * <;> first | with_reducible assumption | omega) | (simp only [srtL, zd, GS.some_l, List.length_set, List.length_append, List.length_cons, List.length_nil, za] at * <;> first | with_reducible assumption | omega) | (simp at * <;> omega))⟩) (And.intro h28 (And.intro p8 (And.intro p7 (And.intro h27 (And.intro p6 (And.intro h26 (And.intro p5 (And.intro p4 (And.intro h22 (And.intro (zb S_Span.D zO) (And.intro h23 (And.intro (zb S_Span.D zP) (And.intro h22 (And.intro (zb S_Span.D zO) trivial))))))))))))))) (by kernel_rfl) (by (simp only [sd20289, go_sem, List.length_set, Nat.reduceAdd, Nat.reduceEqDiff, Nat.reduceLT, Nat.reduceLeDiff, bI2, zi.idsL, zi.renL, zi.snapAll, z7.idsL, z7.renL, z7.snapAll]) <;> rfl) (ih (zJ ++ [(GS.at zO zK)]) (w64 (zK + 1)) zN hf8 (by omega) (by omega) (by simp only [List.length_append, List.length_cons, List.length_nil, za] at * <;> omega) (by omega) (by simp only [List.length_append, List.length_cons, List.length_nil, za] at * <;> omega)) (by kernel_rfl)
          | false =>
            have g27 := of_decide_eq_false h27
            intro hf8
            exact po_turn' (ks := [3, 4, 5, 6, 7]) (st' := (sd20290 zO zP zJ zK zN)) ((r_Join_8a_f_o3 zO zP zK zN) ++ [.dec true, .el (.agg [I ((GS.at zO zK).lo), I ((GS.at zO zK).hi)]), .dec false, .op (some 105) ⟨.lsl 3 0 ((zJ ++ [(GS.at zO zK)]).length) 2 none, [(0, none), (3, some ⟨(zJ ++ [(GS.at zO zK)]).map S_Span.D, 2, false⟩)], [0, 2], 4⟩]) (And.intro (app_row (f := S_Span.D) (te := ty25) (gO := zj [(0, ⟨zJ.map S_Span.D, 2, false⟩), (1, ⟨[.agg [I ((GS.at zO zK).lo), I ((GS.at zO zK).hi)]], 2, false⟩), (2, ⟨[.agg [I ((GS.at zO zK).lo), I ((GS.at zO zK).hi)]], 2, false⟩)]) (nxt := 3) (o := 0) (o2 := 2) (fz := false) z7 zJ (GS.at zO zK) (by kernel_rfl) (by kernel_rfl) rfl (by kernel_rfl) (by decide) ⟨by simp only [ty25, big] <;> (first | assumption | omega | (exact two_bd (by omega) (by omega)) | (exact add_some (by omega)) | (exact add_some' (by omega)) | (exact one_some (by omega)) | (exact one_some' (by omega)) | (exact zA _ (by omega)) | (exact Nat.le_trans (hJl _) (by rw [zd]; omega)) | (simp only [za] at * <;> omega) | (simp only [srtL, zd, GS.some_l, List.length_set, List.length_append, List.length_cons, List.length_nil] at * <;> first | with_reducible assumption | omega) | (simp only [srtL, zd, GS.some_l, List.length_set, List.length_append, List.length_cons, List.length_nil, za] at * <;> first | with_reducible assumption | omega) | (simp at * <;> omega)), by simp only [big] <;> (first | assumption | omega | (exact two_bd (by omega) (by omega)) | (exact add_some (by omega)) | (exact add_some' (by omega)) | (exact one_some (by omega)) | (exact one_some' (by omega)) | (exact zA _ (by omega)) | (exact Nat.le_trans (hJl _) (by rw [zd]; omega)) | (simp only [za] at * <;> omega) | (simp only [srtL, zd, GS.some_l, List.length_set, List.length_append, List.length_cons, List.length_nil] at * <;> first | with_reducible assumption | omega) | (simp only [srtL, zd, GS.some_l, List.length_set, List.length_append, List.length_cons, List.length_nil, za] at * <;> first | with_reducible assumption | omega) | (simp at * <;> omega))⟩) (And.intro h27 (And.intro p6 (And.intro h26 (And.intro p5 (And.intro p4 (And.intro h22 (And.intro (zb S_Span.D zO) (And.intro h23 (And.intro (zb S_Span.D zP) (And.intro h22 (And.intro (zb S_Span.D zO) trivial)))))))))))) (by kernel_rfl) (by (simp only [sd20290, go_sem, List.length_set, Nat.reduceAdd, Nat.reduceEqDiff, Nat.reduceLT, Nat.reduceLeDiff, bI2, zi.idsL, zi.renL, zi.snapAll, z7.idsL, z7.renL, z7.snapAll]) <;> rfl) (ih (zJ ++ [(GS.at zO zK)]) (w64 (zK + 1)) zN hf8 (by omega) (by omega) (by omega) (by omega) (by omega)) (by kernel_rfl)
        | false =>
          have g26 := of_decide_eq_false h26
          have p9 := (el_in (s := zP) (f := S_Span.D) (k := 2) (i := zN) (by omega) (by omega))
          cases h29 : decide (((zJ.length : Nat) : Int) > 0) with
          | true =>
            have g29 := of_decide_eq_true h29
            have p10 := (idx_row (C := cfg) (nxt := 2) (t := 22) (ty := ty22) (te := ty25) (e := 25) (o := 0) (len := zJ.length) (sz := 2) (cap := none) (i := w64 (((zJ.length : Nat) : Int) - 1)) (by kernel_rfl) rfl (by kernel_rfl) rfl (by simp only [List.length_append, List.length_cons, List.length_nil, za] at * <;> omega) (by simp only [List.length_append, List.length_cons, List.length_nil, za] at * <;> omega))
            have p11 := (load_row (C := cfg) (objs := [(0, ⟨zJ.map S_Span.D, 2, false⟩), (1, ⟨[.agg [I ((GS.at zP zN).lo), I ((GS.at zP zN).hi)]], 2, false⟩)]) (nxt := 2) (t := 3) (ty := ty3) (o := 0) (n := (w64 (((zJ.length : Nat) : Int) - 1)).toNat) (sz := 2) (sub := 1) (ob := ⟨zJ.map S_Span.D, 2, false⟩) (e := S_Span.D (zJ.getD ((w64 (((zJ.length : Nat) : Int) - 1)).toNat) default)) (d := I ((zJ.getD ((w64 (((zJ.length : Nat) : Int) - 1)).toNat) default).hi)) (by kernel_rfl) (by kernel_rfl) rfl (row_get (f := S_Span.D) (by simp only [List.length_append, List.length_cons, List.length_nil, za] at * <;> omega)) (by kernel_rfl))
            cases h30 : decide (((GS.at zP zN).lo) ≤ (w64 (((zJ.getD ((w64 (((zJ.length : Nat) : Int) - 1)).toNat) default).hi) + 1))) with
            | true =>
              have g30 := of_decide_eq_true h30
              intro hf8
              exact po_turn' (ks := [3, 4, 5, 6, 7]) (st' := (sd20291 zO zP zJ zK zN)) ((r_Join_8a_f_o3 zO zP zK zN) ++ ((r_Join_8a_f_o5 zP zJ zN) ++ [.dec true, .op (some 94) ⟨.lref 0 ((w64 (((zJ.length : Nat) : Int) - 1)).toNat) 2 0, [], [], 2⟩, .op (some 96) ⟨I ((zJ.getD ((w64 (((zJ.length : Nat) : Int) - 1)).toNat) default).hi), [], [0], 2⟩, .op (some 100) ⟨.lref 0 ((w64 (((zJ.length : Nat) : Int) - 1)).toNat) 2 0, [], [], 2⟩, .stS 0 ⟨.tup [], [(0, some ⟨(zJ.set ((w64 (((zJ.length : Nat) : Int) - 1)).toNat) (⟨(zJ.getD ((w64 (((zJ.length : Nat) : Int) - 1)).toNat) default).lo, zC ((zJ.getD ((w64 (((zJ.length : Nat) : Int) - 1)).toNat) default).hi) ((GS.at zP zN).hi)⟩ : S_Span)).map S_Span.D, 2, false⟩)], [0], 2⟩])) (And.intro (store_row (C := cfg) (objs := [(0, ⟨zJ.map S_Span.D, 2, false⟩), (1, ⟨[.agg [I ((GS.at zP zN).lo), I ((GS.at zP zN).hi)]], 2, false⟩)]) (nxt := 2) (t := 3) (ty := ty3) (o := 0) (n := (w64 (((zJ.length : Nat) : Int) - 1)).toNat) (sz := 2) (sub := 1) (els := zJ.map S_Span.D) (els' := (zJ.set ((w64 (((zJ.length : Nat) : Int) - 1)).toNat) (⟨(zJ.getD ((w64 (((zJ.length : Nat) : Int) - 1)).toNat) default).lo, zC ((zJ.getD ((w64 (((zJ.length : Nat) : Int) - 1)).toNat) default).hi) ((GS.at zP zN).hi)⟩ : S_Span)).map S_Span.D) (e := S_Span.D (zJ.getD ((w64 (((zJ.length : Nat) : Int) - 1)).toNat) default)) (e' := S_Span.D (⟨(zJ.getD ((w64 (((zJ.length : Nat) : Int) - 1)).toNat) default).lo, zC ((zJ.getD ((w64 (((zJ.length : Nat) : Int) - 1)).toNat) default).hi) ((GS.at zP zN).hi)⟩ : S_Span)) (v := I (zC ((zJ.getD ((w64 (((zJ.length : Nat) : Int) - 1)).toNat) default).hi) ((GS.at zP zN).hi))) (by kernel_rfl) (by kernel_rfl) (row_get (f := S_Span.D) (by simp only [List.length_append, List.length_cons, List.length_nil, za] at * <;> omega)) rfl (by kernel_rfl) rfl (by kernel_rfl) (row_set (f := S_Span.D))) (And.intro (idx_row (C := cfg) (nxt := 2) (t := 22) (ty := ty22) (te := ty25) (e := 25) (o := 0) (len := zJ.length) (sz := 2) (cap := none) (i := w64 (((zJ.length : Nat) : Int) - 1)) (by kernel_rfl) rfl (by kernel_rfl) rfl (by simp only [List.length_append, List.length_cons, List.length_nil, za] at * <;> omega) (by simp only [List.length_append, List.length_cons, List.length_nil, za] at * <;> omega)) (And.intro (load_row (C := cfg) (objs := [(0, ⟨zJ.map S_Span.D, 2, false⟩), (1, ⟨[.agg [I ((GS.at zP zN).lo), I ((GS.at zP zN).hi)]], 2, false⟩)]) (nxt := 2) (t := 3) (ty := ty3) (o := 0) (n := (w64 (((zJ.length : Nat) : Int) - 1)).toNat) (sz := 2) (sub := 1) (ob := ⟨zJ.map S_Span.D, 2, false⟩) (e := S_Span.D (zJ.getD ((w64 (((zJ.length : Nat) : Int) - 1)).toNat) default)) (d := I ((zJ.getD ((w64 (((zJ.length : Nat) : Int) - 1)).toNat) default).hi)) (by kernel_rfl) (by kernel_rfl) rfl (row_get (f := S_Span.D) (by simp only [List.length_append, List.length_cons, List.length_nil, za] at * <;> omega)) (by kernel_rfl)) (And.intro (idx_row (C := cfg) (nxt := 2) (t := 22) (ty := ty22) (te := ty25) (e := 25) (o := 0) (len := zJ.length) (sz := 2) (cap := none) (i := w64 (((zJ.length : Nat) : Int) - 1)) (by kernel_rfl) rfl (by kernel_rfl) rfl (by simp only [List.length_append, List.length_cons, List.length_nil, za] at * <;> omega) (by simp only [List.length_append, List.length_cons, List.length_nil, za] at * <;> omega)) (And.intro h30 (And.intro p11 (And.intro p10 (And.intro h29 (And.intro p9 (And.intro h26 (And.intro p5 (And.intro p4 (And.intro h22 (And.intro (zb S_Span.D zO) (And.intro h23 (And.intro (zb S_Span.D zP) (And.intro h22 (And.intro (zb S_Span.D zO) trivial)))))))))))))))))) (by kernel_rfl) (by (simp only [sd20291, go_sem, List.length_set, Nat.reduceAdd, Nat.reduceEqDiff, Nat.reduceLT, Nat.reduceLeDiff, bI2, zi.idsL, zi.renL, zi.snapAll, z7.idsL, z7.renL, z7.snapAll]) <;> rfl) (ih (zJ.set ((w64 (((zJ.length : Nat) : Int) - 1)).toNat) (⟨(zJ.getD ((w64 (((zJ.length : Nat) : Int) - 1)).toNat) default).lo, zC ((zJ.getD ((w64 (((zJ.length : Nat) : Int) - 1)).toNat) default).hi) ((GS.at zP zN).hi)⟩ : S_Span)) zK (w64 (zN + 1)) hf8 (by omega) (by omega) (by omega) (by simp only [List.length_append, List.length_cons, List.length_nil, za] at * <;> omega) (by simp only [srtL, zd, GS.some_l, List.length_set, List.length_append, List.length_cons, List.length_nil, za] at * <;> first | with_reducible assumption | omega)) (by kernel_rfl)
            | false =>
              have g30 := of_decide_eq_false h30
              intro hf8
              exact po_turn' (ks := [3, 4, 5, 6, 7]) (st' := (sd20292 zO zP zJ zK zN)) ((r_Join_8a_f_o3 zO zP zK zN) ++ ((r_Join_8a_f_o5 zP zJ zN) ++ [.dec false, .op (some 105) ⟨.lsl 3 0 ((zJ ++ [(GS.at zP zN)]).length) 2 none, [(0, none), (3, some ⟨(zJ ++ [(GS.at zP zN)]).map S_Span.D, 2, false⟩)], [0, 2], 4⟩])) (And.intro (app_row (f := S_Span.D) (te := ty25) (gO := zj [(0, ⟨zJ.map S_Span.D, 2, false⟩), (1, ⟨[.agg [I ((GS.at zP zN).lo), I ((GS.at zP zN).hi)]], 2, false⟩), (2, ⟨[.agg [I ((GS.at zP zN).lo), I ((GS.at zP zN).hi)]], 2, false⟩)]) (nxt := 3) (o := 0) (o2 := 2) (fz := false) z7 zJ (GS.at zP zN) (by kernel_rfl) (by kernel_rfl) rfl (by kernel_rfl) (by decide) ⟨by simp only [ty25, big] <;> (first | assumption | omega | (exact two_bd (by omega) (by omega)) | (exact add_some (by omega)) | (exact add_some' (by omega)) | (exact one_some (by omega)) | (exact one_some' (by omega)) | (exact zA _ (by omega)) | (exact Nat.le_trans (hJl _) (by rw [zd]; omega)) | (simp only [za] at * <;> omega) | (simp only [srtL, zd, GS.some_l, List.length_set, List.length_append, List.length_cons, List.length_nil] at * <;> first | with_reducible assumption | omega) | (simp only [srtL, zd, GS.some_l, List.length_set, List.length_append, List.length_cons, List.length_nil, za] at * <;> first | with_reducible assumption | omega) | (simp at * <;> omega)), by simp only [big] <;> (first | assumption | omega | (exact two_bd (by omega) (by omega)) | (exact add_some (by omega)) | (exact add_some' (by omega)) | (exact one_some (by omega)) | (exact one_some' (by omega)) | (exact zA _ (by omega)) | (exact Nat.le_trans (hJl _) (by rw [zd]; omega)) | (simp only [za] at * <;> omega) | (simp only [srtL, zd, GS.some_l, List.length_set, List.length_append, List.length_cons, List.length_nil] at * <;> first | with_reducible assumption | omega) | (simp only [srtL, zd, GS.some_l, List.length_set, List.length_append, List.length_cons, List.length_nil, za] at * <;> first | with_reducible assumption | omega) | (simp at * <;> omega))⟩) (And.intro h30 (And.intro p11 (And.intro p10 (And.intro h29 (And.intro p9 (And.intro h26 (And.intro p5 (And.intro p4 (And.intro h22 (And.intro (zb S_Span.D zO) (And.intro h23 (And.intro (zb S_Span.D zP) (And.intro h22 (And.intro (zb S_Span.D zO) trivial))))))))))))))) (by kernel_rfl) (by (simp only [sd20292, go_sem, List.length_set, Nat.reduceAdd, Nat.reduceEqDiff, Nat.reduceLT, Nat.reduceLeDiff, bI2, zi.idsL, zi.renL, zi.snapAll, z7.idsL, z7.renL, z7.snapAll]) <;> rfl) (ih (zJ ++ [(GS.at zP zN)]) zK (w64 (zN + 1)) hf8 (by omega) (by omega) (by omega) (by simp only [List.length_append, List.length_cons, List.length_nil, za] at * <;> omega) (by simp only [List.length_append, List.length_cons, List.length_nil, za] at * <;> omega)) (by kernel_rfl)
          | false =>
            have g29 := of_decide_eq_false h29
            intro hf8
            exact po_turn' (ks := [3, 4, 5, 6, 7]) (st' := (sd20293 zO zP zJ zK zN)) ((r_Join_8a_f_o3 zO zP zK zN) ++ [.dec false, .el (.agg [I ((GS.at zP zN).lo), I ((GS.at zP zN).hi)]), .dec false, .op (some 105) ⟨.lsl 3 0 ((zJ ++ [(GS.at zP zN)]).length) 2 none, [(0, none), (3, some ⟨(zJ ++ [(GS.at zP zN)]).map S_Span.D, 2, false⟩)], [0, 2], 4⟩]) (And.intro (app_row (f := S_Span.D) (te := ty25) (gO := zj [(0, ⟨zJ.map S_Span.D, 2, false⟩), (1, ⟨[.agg [I ((GS.at zP zN).lo), I ((GS.at zP zN).hi)]], 2, false⟩), (2, ⟨[.agg [I ((GS.at zP zN).lo), I ((GS.at zP zN).hi)]], 2, false⟩)]) (nxt := 3) (o := 0) (o2 := 2) (fz := false) z7 zJ (GS.at zP zN) (by kernel_rfl) (by kernel_rfl) rfl (by kernel_rfl) (by decide) ⟨by simp only [ty25, big] <;> (first | assumption | omega | (exact two_bd (by omega) (by omega)) | (exact add_some (by omega)) | (exact add_some' (by omega)) | (exact one_some (by omega)) | (exact one_some' (by omega)) | (exact zA _ (by omega)) | (exact Nat.le_trans (hJl _) (by rw [zd]; omega)) | (simp only [za] at * <;> omega) | (simp only [srtL, zd, GS.some_l, List.length_set, List.length_append, List.length_cons, List.length_nil] at * <;> first | with_reducible assumption | omega) | (simp only [srtL, zd, GS.some_l, List.length_set, List.length_append, List.length_cons, List.length_nil, za] at * <;> first | with_reducible assumption | omega) | (simp at * <;> omega)), by simp only [big] <;> (first | assumption | omega | (exact two_bd (by omega) (by omega)) | (exact add_some (by omega)) | (exact add_some' (by omega)) | (exact one_some (by omega)) | (exact one_some' (by omega)) | (exact zA _ (by omega)) | (exact Nat.le_trans (hJl _) (by rw [zd]; omega)) | (simp only [za] at * <;> omega) | (simp only [srtL, zd, GS.some_l, List.length_set, List.length_append, List.length_cons, List.length_nil] at * <;> first | with_reducible assumption | omega) | (simp only [srtL, zd, GS.some_l, List.length_set, List.length_append, List.length_cons, List.length_nil, za] at * <;> first | with_reducible assumption | omega) | (simp at * <;> omega))⟩) (And.intro h29 (And.intro p9 (And.intro h26 (And.intro p5 (And.intro p4 (And.intro h22 (And.intro (zb S_Span.D zO) (And.intro h23 (And.intro (zb S_Span.D zP) (And.intro h22 (And.intro (zb S_Span.D zO) trivial)))))))))))) (by kernel_rfl) (by (simp only [sd20293, go_sem, List.length_set, Nat.reduceAdd, Nat.reduceEqDiff, Nat.reduceLT, Nat.reduceLeDiff, bI2, zi.idsL, zi.renL, zi.snapAll, z7.idsL, z7.renL, z7.snapAll]) <;> rfl) (ih (zJ ++ [(GS.at zP zN)]) zK (w64 (zN + 1)) hf8 (by omega) (by omega) (by omega) (by omega) (by omega)) (by kernel_rfl)
    | false =>
      have g22 := of_decide_eq_false h22
      cases h31 : decide (zN < ((zP.l.length : Nat) : Int)) with
      | true =>
        have g31 := of_decide_eq_true h31
        cases h32 : (zN == ((zP.l.length : Nat) : Int)) with
        | true =>
          have g32 := eq_of_beq h32
          have p12 := (el_in (s := zO) (f := S_Span.D) (k := 2) (i := zK) (by omega) (by omega))
          cases h33 : decide (((zJ.length : Nat) : Int) > 0) with
          | true =>
            have g33 := of_decide_eq_true h33
            have p13 := (idx_row (C := cfg) (nxt := 2) (t := 22) (ty := ty22) (te := ty25) (e := 25) (o := 0) (len := zJ.length) (sz := 2) (cap := none) (i := w64 (((zJ.length : Nat) : Int) - 1)) (by kernel_rfl) rfl (by kernel_rfl) rfl (by omega) (by omega))
            have p14 := (load_row (C := cfg) (objs := [(0, ⟨zJ.map S_Span.D, 2, false⟩), (1, ⟨[.agg [I ((GS.at zO zK).lo), I ((GS.at zO zK).hi)]], 2, false⟩)]) (nxt := 2) (t := 3) (ty := ty3) (o := 0) (n := (w64 (((zJ.length : Nat) : Int) - 1)).toNat) (sz := 2) (sub := 1) (ob := ⟨zJ.map S_Span.D, 2, false⟩) (e := S_Span.D (zJ.getD ((w64 (((zJ.length : Nat) : Int) - 1)).toNat) default)) (d := I ((zJ.getD ((w64 (((zJ.length : Nat) : Int) - 1)).toNat) default).hi)) (by kernel_rfl) (by kernel_rfl) rfl (row_get (f := S_Span.D) (by omega)) (by kernel_rfl))
            cases h34 : decide (((GS.at zO zK).lo) ≤ (w64 (((zJ.getD ((w64 (((zJ.length : Nat) : Int) - 1)).toNat) default).hi) + 1))) with
            | true =>
              have g34 := of_decide_eq_true h34
              intro hf8
              exact po_turn' (ks := [3, 4, 5, 6, 7]) (st' := (sd20294 zO zP zJ zK zN)) ((r_Join_8a_f_o6 zO zP) ++ ((r_Join_8a_f_o7 zO zJ zK) ++ [.dec true, .op (some 94) ⟨.lref 0 ((w64 (((zJ.length : Nat) : Int) - 1)).toNat) 2 0, [], [], 2⟩, .op (some 96) ⟨I ((zJ.getD ((w64 (((zJ.length : Nat) : Int) - 1)).toNat) default).hi), [], [0], 2⟩, .op (some 100) ⟨.lref 0 ((w64 (((zJ.length : Nat) : Int) - 1)).toNat) 2 0, [], [], 2⟩, .stS 0 ⟨.tup [], [(0, some ⟨(zJ.set ((w64 (((zJ.length : Nat) : Int) - 1)).toNat) (⟨(zJ.getD ((w64 (((zJ.length : Nat) : Int) - 1)).toNat) default).lo, zC ((zJ.getD ((w64 (((zJ.length : Nat) : Int) - 1)).toNat) default).hi) ((GS.at zO zK).hi)⟩ : S_Span)).map S_Span.D, 2, false⟩)], [0], 2⟩])) (And.intro (store_row (C := cfg) (objs := [(0, ⟨zJ.map S_Span.D, 2, false⟩), (1, ⟨[.agg [I ((GS.at zO zK).lo), I ((GS.at zO zK).hi)]], 2, false⟩)]) (nxt := 2) (t := 3) (ty := ty3) (o := 0) (n := (w64 (((zJ.length : Nat) : Int) - 1)).toNat) (sz := 2) (sub := 1) (els := zJ.map S_Span.D) (els' := (zJ.set ((w64 (((zJ.length : Nat) : Int) - 1)).toNat) (⟨(zJ.getD ((w64 (((zJ.length : Nat) : Int) - 1)).toNat) default).lo, zC ((zJ.getD ((w64 (((zJ.length : Nat) : Int) - 1)).toNat) default).hi) ((GS.at zO zK).hi)⟩ : S_Span)).map S_Span.D) (e := S_Span.D (zJ.getD ((w64 (((zJ.length : Nat) : Int) - 1)).toNat) default)) (e' := S_Span.D (⟨(zJ.getD ((w64 (((zJ.length : Nat) : Int) - 1)).toNat) default).lo, zC ((zJ.getD ((w64 (((zJ.length : Nat) : Int) - 1)).toNat) default).hi) ((GS.at zO zK).hi)⟩ : S_Span)) (v := I (zC ((zJ.getD ((w64 (((zJ.length : Nat) : Int) - 1)).toNat) default).hi) ((GS.at zO zK).hi))) (by kernel_rfl) (by kernel_rfl) (row_get (f := S_Span.D) (by omega)) rfl (by kernel_rfl) rfl (by kernel_rfl) (row_set (f := S_Span.D))) (And.intro (idx_row (C := cfg) (nxt := 2) (t := 22) (ty := ty22) (te := ty25) (e := 25) (o := 0) (len := zJ.length) (sz := 2) (cap := none) (i := w64 (((zJ.length : Nat) : Int) - 1)) (by kernel_rfl) rfl (by kernel_rfl) rfl (by omega) (by omega)) (And.intro (load_row (C := cfg) (objs := [(0, ⟨zJ.map S_Span.D, 2, false⟩), (1, ⟨[.agg [I ((GS.at zO zK).lo), I ((GS.at zO zK).hi)]], 2, false⟩)]) (nxt := 2) (t := 3) (ty := ty3) (o := 0) (n := (w64 (((zJ.length : Nat) : Int) - 1)).toNat) (sz := 2) (sub := 1) (ob := ⟨zJ.map S_Span.D, 2, false⟩) (e := S_Span.D (zJ.getD ((w64 (((zJ.length : Nat) : Int) - 1)).toNat) default)) (d := I ((zJ.getD ((w64 (((zJ.length : Nat) : Int) - 1)).toNat) default).hi)) (by kernel_rfl) (by kernel_rfl) rfl (row_get (f := S_Span.D) (by omega)) (by kernel_rfl)) (And.intro (idx_row (C := cfg) (nxt := 2) (t := 22) (ty := ty22) (te := ty25) (e := 25) (o := 0) (len := zJ.length) (sz := 2) (cap := none) (i := w64 (((zJ.length : Nat) : Int) - 1)) (by kernel_rfl) rfl (by kernel_rfl) rfl (by omega) (by omega)) (And.intro h34 (And.intro p14 (And.intro p13 (And.intro h33 (And.intro p12 (And.intro h32 (And.intro (zb S_Span.D zP) (And.intro h31 (And.intro (zb S_Span.D zP) (And.intro h22 (And.intro (zb S_Span.D zO) trivial))))))))))))))) (by kernel_rfl) (by (simp only [sd20294, go_sem, List.length_set, Nat.reduceAdd, Nat.reduceEqDiff, Nat.reduceLT, Nat.reduceLeDiff, bI2, zi.idsL, zi.renL, zi.snapAll, z7.idsL, z7.renL, z7.snapAll]) <;> rfl) (ih (zJ.set ((w64 (((zJ.length : Nat) : Int) - 1)).toNat) (⟨(zJ.getD ((w64 (((zJ.length : Nat) : Int) - 1)).toNat) default).lo, zC ((zJ.getD ((w64 (((zJ.length : Nat) : Int) - 1)).toNat) default).hi) ((GS.at zO zK).hi)⟩ : S_Span)) (w64 (zK + 1)) zN hf8 (by omega) (by omega) (by omega) (by omega) (by omega)) (by kernel_rfl)
            | false =>
              have g34 := of_decide_eq_false h34
              intro hf8
              exact po_turn' (ks := [3, 4, 5, 6, 7]) (st' := (sd20295 zO zP zJ zK zN)) ((r_Join_8a_f_o6 zO zP) ++ ((r_Join_8a_f_o7 zO zJ zK) ++ [.dec false, .op (some 105) ⟨.lsl 3 0 ((zJ ++ [(GS.at zO zK)]).length) 2 none, [(0, none), (3, some ⟨(zJ ++ [(GS.at zO zK)]).map S_Span.D, 2, false⟩)], [0, 2], 4⟩])) (And.intro (app_row (f := S_Span.D) (te := ty25) (gO := zj [(0, ⟨zJ.map S_Span.D, 2, false⟩), (1, ⟨[.agg [I ((GS.at zO zK).lo), I ((GS.at zO zK).hi)]], 2, false⟩), (2, ⟨[.agg [I ((GS.at zO zK).lo), I ((GS.at zO zK).hi)]], 2, false⟩)]) (nxt := 3) (o := 0) (o2 := 2) (fz := false) z7 zJ (GS.at zO zK) (by kernel_rfl) (by kernel_rfl) rfl (by kernel_rfl) (by decide) ⟨by simp only [ty25, big] <;> (first | assumption | omega | (exact two_bd (by omega) (by omega)) | (exact add_some (by omega)) | (exact add_some' (by omega)) | (exact one_some (by omega)) | (exact one_some' (by omega)) | (exact zA _ (by omega)) | (exact Nat.le_trans (hJl _) (by rw [zd]; omega)) | (simp only [za] at * <;> omega) | (simp only [srtL, zd, GS.some_l, List.length_set, List.length_append, List.length_cons, List.length_nil] at * <;> first | with_reducible assumption | omega) | (simp only [srtL, zd, GS.some_l, List.length_set, List.length_append, List.length_cons, List.length_nil, za] at * <;> first | with_reducible assumption | omega) | (simp at * <;> omega)), by simp only [big] <;> (first | assumption | omega | (exact two_bd (by omega) (by omega)) | (exact add_some (by omega)) | (exact add_some' (by omega)) | (exact one_some (by omega)) | (exact one_some' (by omega)) | (exact zA _ (by omega)) | (exact Nat.le_trans (hJl _) (by rw [zd]; omega)) | (simp only [za] at * <;> omega) | (simp only [srtL, zd, GS.some_l, List.length_set, List.length_append, List.length_cons, List.length_nil] at * <;> first | with_reducible assumption | omega) | (simp only [srtL, zd, GS.some_l, List.length_set, List.length_append, List.length_cons, List.length_nil, za] at * <;> first | with_reducible assumption | omega) | (simp at * <;> omega))⟩) (And.intro h34 (And.intro p14 (And.intro p13 (And.intro h33 (And.intro p12 (And.intro h32 (And.intro (zb S_Span.D zP) (And.intro h31 (And.intro (zb S_Span.D zP) (And.intro h22 (And.intro (zb S_Span.D zO) trivial)))))))))))) (by kernel_rfl) (by (simp only [sd20295, go_sem, List.length_set, Nat.reduceAdd, Nat.reduceEqDiff, Nat.reduceLT, Nat.reduceLeDiff, bI2, zi.idsL, zi.renL, zi.snapAll, z7.idsL, z7.renL, z7.snapAll]) <;> rfl) (ih (zJ ++ [(GS.at zO zK)]) (w64 (zK + 1)) zN hf8 (by omega) (by omega) (by omega) (by omega) (by omega)) (by kernel_rfl)
          | false =>
            have g33 := of_decide_eq_false h33
            intro hf8
            exact po_turn' (ks := [3, 4, 5, 6, 7]) (st' := (sd20296 zO zP zJ zK zN)) ((r_Join_8a_f_o6 zO zP) ++ [.dec true, .el (.agg [I ((GS.at zO zK).lo), I ((GS.at zO zK).hi)]), .dec false, .op (some 105) ⟨.lsl 3 0 ((zJ ++ [(GS.at zO zK)]).length) 2 none, [(0, none), (3, some ⟨(zJ ++ [(GS.at zO zK)]).map S_Span.D, 2, false⟩)], [0, 2], 4⟩]) (And.intro (app_row (f := S_Span.D) (te := ty25) (gO := zj [(0, ⟨zJ.map S_Span.D, 2, false⟩), (1, ⟨[.agg [I ((GS.at zO zK).lo), I ((GS.at zO zK).hi)]], 2, false⟩), (2, ⟨[.agg [I ((GS.at zO zK).lo), I ((GS.at zO zK).hi)]], 2, false⟩)]) (nxt := 3) (o := 0) (o2 := 2) (fz := false) z7 zJ (GS.at zO zK) (by kernel_rfl) (by kernel_rfl) rfl (by kernel_rfl) (by decide) ⟨by simp only [ty25, big] <;> (first | assumption | omega | (exact two_bd (by omega) (by omega)) | (exact add_some (by omega)) | (exact add_some' (by omega)) | (exact one_some (by omega)) | (exact one_some' (by omega)) | (exact zA _ (by omega)) | (exact Nat.le_trans (hJl _) (by rw [zd]; omega)) | (simp only [za] at * <;> omega) | (simp only [srtL, zd, GS.some_l, List.length_set, List.length_append, List.length_cons, List.length_nil] at * <;> first | with_reducible assumption | omega) | (simp only [srtL, zd, GS.some_l, List.length_set, List.length_append, List.length_cons, List.length_nil, za] at * <;> first | with_reducible assumption | omega) | (simp at * <;> omega)), by simp only [big] <;> (first | assumption | omega | (exact two_bd (by omega) (by omega)) | (exact add_some (by omega)) | (exact add_some' (by omega)) | (exact one_some (by omega)) | (exact one_some' (by omega)) | (exact zA _ (by omega)) | (exact Nat.le_trans (hJl _) (by rw [zd]; omega)) | (simp only [za] at * <;> omega) | (simp only [srtL, zd, GS.some_l, List.length_set, List.length_append, List.length_cons, List.length_nil] at * <;> first | with_reducible assumption | omega) | (simp only [srtL, zd, GS.some_l, List.length_set, List.length_append, List.length_cons, List.length_nil, za] at * <;> first | with_reducible assumption | omega) | (simp at * <;> omega))⟩) (And.intro h33 (And.intro p12 (And.intro h32 (And.intro (zb S_Span.D zP) (And.intro h31 (And.intro (zb S_Span.D zP) (And.intro h22 (And.intro (zb S_Span.D zO) trivial))))))))) (by kernel_rfl) (by (simp only [sd20296, go_sem, List.length_set, Nat.reduceAdd, Nat.reduceEqDiff, Nat.reduceLT, Nat.reduceLeDiff, bI2, zi.idsL, zi.renL, zi.snapAll, z7.idsL, z7.renL, z7.snapAll]) <;> rfl) (ih (zJ ++ [(GS.at zO zK)]) (w64 (zK + 1)) zN hf8 (by omega) (by omega) (by omega) (by omega) (by omega)) (by kernel_rfl)
        | false =>
          have g32 := ne_of_beq_false h32
          have p15 := (el_in (s := zP) (f := S_Span.D) (k := 2) (i := zN) (by omega) (by omega))
          cases h35 : decide (((zJ.length : Nat) : Int) > 0) with
          | true =>
            have g35 := of_decide_eq_true h35
            have p16 := (idx_row (C := cfg) (nxt := 2) (t := 22) (ty := ty22) (te := ty25) (e := 25) (o := 0) (len := zJ.length) (sz := 2) (cap := none) (i := w64 (((zJ.length : Nat) : Int) - 1)) (by kernel_rfl) rfl (by kernel_rfl) rfl (by simp only [List.length_append, List.length_cons, List.length_nil, za] at * <;> omega) (by simp only [List.length_append, List.length_cons, List.length_nil, za] at * <;> omega))
            have p17 := (load_row (C := cfg) (objs := [(0, ⟨zJ.map S_Span.D, 2, false⟩), (1, ⟨[.agg [I ((GS.at zP zN).lo), I ((GS.at zP zN).hi)]], 2, false⟩)]) (nxt := 2) (t := 3) (ty := ty3) (o := 0) (n := (w64 (((zJ.length : Nat) : Int) - 1)).toNat) (sz := 2) (sub := 1) (ob := ⟨zJ.map S_Span.D, 2, false⟩) (e := S_Span.D (zJ.getD ((w64 (((zJ.length : Nat) : Int) - 1)).toNat) default)) (d := I ((zJ.getD ((w64 (((zJ.length : Nat) : Int) - 1)).toNat) default).hi)) (by kernel_rfl) (by kernel_rfl) rfl (row_get (f := S_Span.D) (by simp only [List.length_append, List.length_cons, List.length_nil, za] at * <;> omega)) (by kernel_rfl))
            cases h36 : decide (((GS.at zP zN).lo) ≤ (w64 (((zJ.getD ((w64 (((zJ.length : Nat) : Int) - 1)).toNat) default).hi) + 1))) with
            | true =>
              have g36 := of_decide_eq_true h36
              intro hf8
              exact po_turn' (ks := [3, 4, 5, 6, 7]) (st' := (sd20297 zO zP zJ zK zN)) ((r_Join_8a_f_o6 zO zP) ++ ((r_Join_8a_f_o8 zO zP zN) ++ ((r_Join_8a_f_o9 zJ) ++ [.dec true, .op (some 94) ⟨.lref 0 ((w64 (((zJ.length : Nat) : Int) - 1)).toNat) 2 0, [], [], 2⟩, .op (some 96) ⟨I ((zJ.getD ((w64 (((zJ.length : Nat) : Int) - 1)).toNat) default).hi), [], [0], 2⟩, .op (some 100) ⟨.lref 0 ((w64 (((zJ.length : Nat) : Int) - 1)).toNat) 2 0, [], [], 2⟩, .stS 0 ⟨.tup [], [(0, some ⟨(zJ.set ((w64 (((zJ.length : Nat) : Int) - 1)).toNat) (⟨(zJ.getD ((w64 (((zJ.length : Nat) : Int) - 1)).toNat) default).lo, zC ((zJ.getD ((w64 (((zJ.length : Nat) : Int) - 1)).toNat) default).hi) ((GS.at zP zN).hi)⟩ : S_Span)).map S_Span.D, 2, false⟩)], [0], 2⟩]))) (And.intro (store_row (C := cfg) (objs := [(0, ⟨zJ.map S_Span.D, 2, false⟩), (1, ⟨[.agg [I ((GS.at zP zN).lo), I ((GS.at zP zN).hi)]], 2, false⟩)]) (nxt := 2) (t := 3) (ty := ty3) (o := 0) (n := (w64 (((zJ.length : Nat) : Int) - 1)).toNat) (sz := 2) (sub := 1) (els := zJ.map S_Span.D) (els' := (zJ.set ((w64 (((zJ.length : Nat) : Int) - 1)).toNat) (⟨(zJ.getD ((w64 (((zJ.length : Nat) : Int) - 1)).toNat) default).lo, zC ((zJ.getD ((w64 (((zJ.length : Nat) : Int) - 1)).toNat) default).hi) ((GS.at zP zN).hi)⟩ : S_Span)).map S_Span.D) (e := S_Span.D (zJ.getD ((w64 (((zJ.length : Nat) : Int) - 1)).toNat) default)) (e' := S_Span.D (⟨(zJ.getD ((w64 (((zJ.length : Nat) : Int) - 1)).toNat) default).lo, zC ((zJ.getD ((w64 (((zJ.length : Nat) : Int) - 1)).toNat) default).hi) ((GS.at zP zN).hi)⟩ : S_Span)) (v := I (zC ((zJ.getD ((w64 (((zJ.length : Nat) : Int) - 1)).toNat) default).hi) ((GS.at zP zN).hi))) (by kernel_rfl) (by kernel_rfl) (row_get (f := S_Span.D) (by simp only [List.length_append, List.length_cons, List.length_nil, za] at * <;> omega)) rfl (by kernel_rfl) rfl (by kernel_rfl) (row_set (f := S_Span.D))) (And.intro (idx_row (C := cfg) (nxt := 2) (t := 22) (ty := ty22) (te := ty25) (e := 25) (o := 0) (len := zJ.length) (sz := 2) (cap := none) (i := w64 (((zJ.length : Nat) : Int) - 1)) (by kernel_rfl) rfl (by kernel_rfl) rfl (by simp only [List.length_append, List.length_cons, List.length_nil, za] at * <;> omega) (by simp only [List.length_append, List.length_cons, List.length_nil, za] at * <;> omega)) (And.intro (load_row (C := cfg) (objs := [(0, ⟨zJ.map S_Span.D, 2, false⟩), (1, ⟨[.agg [I ((GS.at zP zN).lo), I ((GS.at zP zN).hi)]], 2, false⟩)]) (nxt := 2) (t := 3) (ty := ty3) (o := 0) (n := (w64 (((zJ.length : Nat) : Int) - 1)).toNat) (sz := 2) (sub := 1) (ob := ⟨zJ.map S_Span.D, 2, false⟩) (e := S_Span.D (zJ.getD ((w64 (((zJ.length : Nat) : Int) - 1)).toNat) default)) (d := I ((zJ.getD ((w64 (((zJ.length : Nat) : Int) - 1)).toNat) default).hi)) (by kernel_rfl) (by kernel_rfl) rfl (row_get (f := S_Span.D) (by simp only [List.length_append, List.length_cons, List.length_nil, za] at * <;> omega)) (by kernel_rfl)) (And.intro (idx_row (C := cfg) (nxt := 2) (t := 22) (ty := ty22) (te := ty25) (e := 25) (o := 0) (len := zJ.length) (sz := 2) (cap := none) (i := w64 (((zJ.length : Nat) : Int) - 1)) (by kernel_rfl) rfl (by kernel_rfl) rfl (by simp only [List.length_append, List.length_cons, List.length_nil, za] at * <;> omega) (by simp only [List.length_append, List.length_cons, List.length_nil, za] at * <;> omega)) (And.intro h36 (And.intro p17 (And.intro p16 (And.intro h35 (And.intro p15 (And.intro h22 (And.intro (zb S_Span.D zO) (And.intro h32 (And.intro (zb S_Span.D zP) (And.intro h31 (And.intro (zb S_Span.D zP) (And.intro h22 (And.intro (zb S_Span.D zO) trivial))))))))))))))))) (by kernel_rfl) (by (simp only [sd20297, go_sem, List.length_set, Nat.reduceAdd, Nat.reduceEqDiff, Nat.reduceLT, Nat.reduceLeDiff, bI2, zi.idsL, zi.renL, zi.snapAll, z7.idsL, z7.renL, z7.snapAll]) <;> rfl) (ih (zJ.set ((w64 (((zJ.length : Nat) : Int) - 1)).toNat) (⟨(zJ.getD ((w64 (((zJ.length : Nat) : Int) - 1)).toNat) default).lo, zC ((zJ.getD ((w64 (((zJ.length : Nat) : Int) - 1)).toNat) default).hi) ((GS.at zP zN).hi)⟩ : S_Span)) zK (w64 (zN + 1)) hf8 (by omega) (by omega) (by omega) (by simp only [List.length_append, List.length_cons, List.length_nil, za] at * <;> omega) (by simp only [srtL, zd, GS.some_l, List.length_set, List.length_append, List.length_cons, List.length_nil, za] at * <;> first | with_reducible assumption | omega)) (by kernel_rfl)
            | false =>
              have g36 := of_decide_eq_false h36
              intro hf8
              exact po_turn' (ks := [3, 4, 5, 6, 7]) (st' := (sd20298 zO zP zJ zK zN)) ((r_Join_8a_f_o6 zO zP) ++ ((r_Join_8a_f_o8 zO zP zN) ++ ((r_Join_8a_f_o9 zJ) ++ [.dec false, .op (some 105) ⟨.lsl 3 0 ((zJ ++ [(GS.at zP zN)]).length) 2 none, [(0, none), (3, some ⟨(zJ ++ [(GS.at zP zN)]).map S_Span.D, 2, false⟩)], [0, 2], 4⟩]))) (And.intro (app_row (f := S_Span.D) (te := ty25) (gO := zj [(0, ⟨zJ.map S_Span.D, 2, false⟩), (1, ⟨[.agg [I ((GS.at zP zN).lo), I ((GS.at zP zN).hi)]], 2, false⟩), (2, ⟨[.agg [I ((GS.at zP zN).lo), I ((GS.at zP zN).hi)]], 2, false⟩)]) (nxt := 3) (o := 0) (o2 := 2) (fz := false) z7 zJ (GS.at zP zN) (by kernel_rfl) (by kernel_rfl) rfl (by kernel_rfl) (by decide) ⟨by simp only [ty25, big] <;> (first | assumption | omega | (exact two_bd (by omega) (by omega)) | (exact add_some (by omega)) | (exact add_some' (by omega)) | (exact one_some (by omega)) | (exact one_some' (by omega)) | (exact zA _ (by omega)) | (exact Nat.le_trans (hJl _) (by rw [zd]; omega)) | (simp only [za] at * <;> omega) | (simp only [srtL, zd, GS.some_l, List.length_set, List.length_append, List.length_cons, List.length_nil] at * <;> first | with_reducible assumption | omega) | (simp only [srtL, zd, GS.some_l, List.length_set, List.length_append, List.length_cons, List.length_nil, za] at * <;> first | with_reducible assumption | omega) | (simp at * <;> omega)), by simp only [big] <;> (first | assumption | omega | (exact two_bd (by omega) (by omega)) | (exact add_some (by omega)) | (exact add_some' (by omega)) | (exact one_some (by omega)) | (exact one_some' (by omega)) | (exact zA _ (by omega)) | (exact Nat.le_trans (hJl _) (by rw [zd]; omega)) | (simp only [za] at * <;> omega) | (simp only [srtL, zd, GS.some_l, List.length_set, List.length_append, List.length_cons, List.length_nil] at * <;> first | with_reducible assumption | omega) | (simp only [srtL, zd, GS.some_l, List.length_set, List.length_append, List.length_cons, List.length_nil, za] at * <;> first | with_reducible assumption | omega) | (simp at * <;> omega))⟩) (And.intro h36 (And.intro p17 (And.intro p16 (And.intro h35 (And.intro p15 (And.intro h22 (And.intro (zb S_Span.D zO) (And.intro h32 (And.intro (zb S_Span.D zP) (And.intro h31 (And.intro (zb S_Span.D zP) (And.intro h22 (And.intro (zb S_Span.D zO) trivial)))))))))))))) (by kernel_rfl) (by (simp only [sd20298, go_sem, List.length_set, Nat.reduceAdd, Nat.reduceEqDiff, Nat.reduceLT, Nat.reduceLeDiff, bI2, zi.idsL, zi.renL, zi.snapAll, z7.idsL, z7.renL, z7.snapAll]) <;> rfl) (ih (zJ ++ [(GS.at zP zN)]) zK (w64 (zN + 1)) hf8 (by omega) (by omega) (by omega) (by simp only [List.length_append, List.length_cons, List.length_nil, za] at * <;> omega) (by simp only [List.length_append, List.length_cons, List.length_nil, za] at * <;> omega)) (by kernel_rfl)
          | false =>
            have g35 := of_decide_eq_false h35
            intro hf8
            exact po_turn' (ks := [3, 4, 5, 6, 7]) (st' := (sd20299 zO zP zJ zK zN)) ((r_Join_8a_f_o6 zO zP) ++ ((r_Join_8a_f_o8 zO zP zN) ++ [.dec false, .op (some 105) ⟨.lsl 3 0 ((zJ ++ [(GS.at zP zN)]).length) 2 none, [(0, none), (3, some ⟨(zJ ++ [(GS.at zP zN)]).map S_Span.D, 2, false⟩)], [0, 2], 4⟩])) (And.intro (app_row (f := S_Span.D) (te := ty25) (gO := zj [(0, ⟨zJ.map S_Span.D, 2, false⟩), (1, ⟨[.agg [I ((GS.at zP zN).lo), I ((GS.at zP zN).hi)]], 2, false⟩), (2, ⟨[.agg [I ((GS.at zP zN).lo), I ((GS.at zP zN).hi)]], 2, false⟩)]) (nxt := 3) (o := 0) (o2 := 2) (fz := false) z7 zJ (GS.at zP zN) (by kernel_rfl) (by kernel_rfl) rfl (by kernel_rfl) (by decide) ⟨by simp only [ty25, big] <;> (first | assumption | omega | (exact two_bd (by omega) (by omega)) | (exact add_some (by omega)) | (exact add_some' (by omega)) | (exact one_some (by omega)) | (exact one_some' (by omega)) | (exact zA _ (by omega)) | (exact Nat.le_trans (hJl _) (by rw [zd]; omega)) | (simp only [za] at * <;> omega) | (simp only [srtL, zd, GS.some_l, List.length_set, List.length_append, List.length_cons, List.length_nil] at * <;> first | with_reducible assumption | omega) | (simp only [srtL, zd, GS.some_l, List.length_set, List.length_append, List.length_cons, List.length_nil, za] at * <;> first | with_reducible assumption | omega) | (simp at * <;> omega)), by simp only [big] <;> (first | assumption | omega | (exact two_bd (by omega) (by omega)) | (exact add_some (by omega)) | (exact add_some' (by omega)) | (exact one_some (by omega)) | (exact one_some' (by omega)) | (exact zA _ (by omega)) | (exact Nat.le_trans (hJl _) (by rw [zd]; omega)) | (simp only [za] at * <;> omega) | (simp only [srtL, zd, GS.some_l, List.length_set, List.length_append, List.length_cons, List.length_nil] at * <;> first | with_reducible assumption | omega) | (simp only [srtL, zd, GS.some_l, List.length_set, List.length_append, List.length_cons, List.length_nil, za] at * <;> first | with_reducible assumption | omega) | (simp at * <;> omega))⟩) (And.intro h35 (And.intro p15 (And.intro h22 (And.intro (zb S_Span.D zO) (And.intro h32 (And.intro (zb S_Span.D zP) (And.intro h31 (And.intro (zb S_Span.D zP) (And.intro h22 (And.intro (zb S_Span.D zO) trivial))))))))))) (by kernel_rfl) (by (simp only [sd20299, go_sem, List.length_set, Nat.reduceAdd, Nat.reduceEqDiff, Nat.reduceLT, Nat.reduceLeDiff, bI2, zi.idsL, zi.renL, zi.snapAll, z7.idsL, z7.renL, z7.snapAll]) <;> rfl) (ih (zJ ++ [(GS.at zP zN)]) zK (w64 (zN + 1)) hf8 (by omega) (by omega) (by omega) (by omega) (by omega)) (by kernel_rfl)
      | false =>
        have g31 := of_decide_eq_false h31
        intro hf8
        exact zI [.rw 28 (I ((zO.l.length : Nat) : Int)), .dec false, .rw 33 (I ((zP.l.length : Nat) : Int)), .dec false] (And.intro h31 (And.intro (zb S_Span.D zP) (And.intro h22 (And.intro (zb S_Span.D zO) trivial)))) (by kernel_rfl)
theorem ivt_r_Join_8a (zO : GS S_Span) (zP : GS S_Span) : ∀ (zT : Nat) (zJ : List S_Span) (zK : Int) (zN : Int) (hf8 : zr zO zP zT zJ zK zN ≠ .out) (ha32 : zO.l.length ≤ 1073741824) (hb32 : zP.l.length ≤ 1073741824) (hi1 : 0 ≤ zK ∧ zK ≤ ((zO.l.length : Nat) : Int)) (hk1 : 0 ≤ zN ∧ zN ≤ ((zP.l.length : Nat) : Int)) (ho1 : 1 ≤ zJ.length ∧ ((zJ.length : Nat) : Int) ≤ zK + zN), iv_r_Join_8 zO zP (zr zO zP zT zJ zK zN) := by
  intro zT
  induction zT with
  | zero =>
    intro zJ zK zN hf8 ha32 hb32 hi1 hk1 ho1
    exact absurd rfl hf8
  | succ zT ih =>
    intro zJ zK zN hf8 ha32 hb32 hi1 hk1 ho1
    unfold zr at hf8 ⊢
    revert hf8
    cases h22 : decide (zK < ((zO.l.length : Nat) : Int)) with
    | true =>
      have g22 := of_decide_eq_true h22
      cases h23 : (zN == ((zP.l.length : Nat) : Int)) with
      | true =>
        have g23 := eq_of_beq h23
        cases h24 : decide (((zJ.length : Nat) : Int) > 0) with
        | true =>
          have g24 := of_decide_eq_true h24
          cases h25 : decide (((GS.at zO zK).lo) ≤ (w64 (((zJ.getD ((w64 (((zJ.length : Nat) : Int) - 1)).toNat) default).hi) + 1))) with
          | true =>
            have g25 := of_decide_eq_true h25
            intro hf8
            exact ih (zJ.set ((w64 (((zJ.length : Nat) : Int) - 1)).toNat) (⟨(zJ.getD ((w64 (((zJ.length : Nat) : Int) - 1)).toNat) default).lo, zC ((zJ.getD ((w64 (((zJ.length : Nat) : Int) - 1)).toNat) default).hi) ((GS.at zO zK).hi)⟩ : S_Span)) (w64 (zK + 1)) zN hf8 (by omega) (by omega) (by simp only [List.length_append, List.length_cons, List.length_nil, za] at * <;> omega) (by omega) (by simp only [srtL, zd, GS.some_l, List.length_set, List.length_append, List.length_cons, List.length_nil, za] at * <;> first | with_reducible assumption | omega)
          | false =>
            have g25 := of_decide_eq_false h25
            intro hf8
            exact ih (zJ ++ [(GS.at zO zK)]) (w64 (zK + 1)) zN hf8 (by omega) (by omega) (by simp only [List.length_append, List.length_cons, List.length_nil, za] at * <;> omega) (by omega) (by simp only [List.length_append, List.length_cons, List.length_nil, za] at * <;> omega)
        | false =>
          have g24 := of_decide_eq_false h24
          intro hf8
          exact ih (zJ ++ [(GS.at zO zK)]) (w64 (zK + 1)) zN hf8 (by omega) (by omega) (by omega) (by omega) (by omega)
      | false =>
        have g23 := ne_of_beq_false h23
        cases h26 : decide (((GS.at zO zK).lo) ≤ ((GS.at zP zN).lo)) with
        | true =>
          have g26 := of_decide_eq_true h26
          cases h27 : decide (((zJ.length : Nat) : Int) > 0) with
          | true =>
            have g27 := of_decide_eq_true h27
            cases h28 : decide (((GS.at zO zK).lo) ≤ (w64 (((zJ.getD ((w64 (((zJ.length : Nat) : Int) - 1)).toNat) default).hi) + 1))) with
            | true =>
              have g28 := of_decide_eq_true h28
              intro hf8
              exact ih (zJ.set ((w64 (((zJ.length : Nat) : Int) - 1)).toNat) (⟨(zJ.getD ((w64 (((zJ.length : Nat) : Int) - 1)).toNat) default).lo, zC ((zJ.getD ((w64 (((zJ.length : Nat) : Int) - 1)).toNat) default).hi) ((GS.at zO zK).hi)⟩ : S_Span)) (w64 (zK + 1)) zN hf8 (by omega) (by omega) (by simp only [List.length_append, List.length_cons, List.length_nil, za] at * <;> omega) (by omega) (by simp only [srtL, zd, GS.some_l, List.length_set, List.length_append, List.length_cons, List.length_nil, za] at * <;> first | with_reducible assumption | omega)
            | false =>
              have g28 := of_decide_eq_false h28
              intro hf8
              exact ih (zJ ++ [(GS.at zO zK)]) (w64 (zK + 1)) zN hf8 (by omega) (by omega) (by simp only [List.length_append, List.length_cons, List.length_nil, za] at * <;> omega) (by omega) (by simp only [List.length_append, List.length_cons, List.length_nil, za] at * <;> omega)
          | false =>
            have g27 := of_decide_eq_false h27
            intro hf8
            exact ih (zJ ++ [(GS.at zO zK)]) (w64 (zK + 1)) zN hf8 (by omega) (by omega) (by omega) (by omega) (by omega)
        | false =>
          have g26 := of_decide_eq_false h26
          cases h29 : decide (((zJ.length : Nat) : Int) > 0) with
          | true =>
            have g29 := of_decide_eq_true h29
            cases h30 : decide (((GS.at zP zN).lo) ≤ (w64 (((zJ.getD ((w64 (((zJ.length : Nat) : Int) - 1)).toNat) default).hi) + 1))) with
            | true =>
              have g30 := of_decide_eq_true h30
              intro hf8
              exact ih (zJ.set ((w64 (((zJ.length : Nat) : Int) - 1)).toNat) (⟨(zJ.getD ((w64 (((zJ.length : Nat) : Int) - 1)).toNat) default).lo, zC ((zJ.getD ((w64 (((zJ.length : Nat) : Int) - 1)).toNat) default).hi) ((GS.at zP zN).hi)⟩ : S_Span)) zK (w64 (zN + 1)) hf8 (by omega) (by omega) (by omega) (by simp only [List.length_append, List.length_cons, List.length_nil, za] at * <;> omega) (by simp only [srtL, zd, GS.some_l, List.length_set, List.length_append, List.length_cons, List.length_nil, za] at * <;> first | with_reducible assumption | omega)
            | false =>
              have g30 := of_decide_eq_false h30
              intro hf8
              exact ih (zJ ++ [(GS.at zP zN)]) zK (w64 (zN + 1)) hf8 (by omega) (by omega) (by omega) (by simp only [List.length_append, List.length_cons, List.length_nil, za] at * <;> omega) (by simp only [List.length_append, List.length_cons, List.length_nil, za] at * <;> omega)
          | false =>
            have g29 := of_decide_eq_false h29
            intro hf8
            exact ih (zJ ++ [(GS.at zP zN)]) zK (w64 (zN + 1)) hf8 (by omega) (by omega) (by omega) (by omega) (by omega)
    | false =>
      have g22 := of_decide_eq_false h22
      cases h31 : decide (zN < ((zP.l.length : Nat) : Int)) with
      | true =>
        have g31 := of_decide_eq_true h31
        cases h32 : (zN == ((zP.l.length : Nat) : Int)) with
        | true =>
          have g32 := eq_of_beq h32
          cases h33 : decide (((zJ.length : Nat) : Int) > 0) with
          | true =>
            have g33 := of_decide_eq_true h33
            cases h34 : decide (((GS.at zO zK).lo) ≤ (w64 (((zJ.getD ((w64 (((zJ.length : Nat) : Int) - 1)).toNat) default).hi) + 1))) with
            | true =>
              have g34 := of_decide_eq_true h34
              intro hf8
              exact ih (zJ.set ((w64 (((zJ.length : Nat) : Int) - 1)).toNat) (⟨(zJ.getD ((w64 (((zJ.length : Nat) : Int) - 1)).toNat) default).lo, zC ((zJ.getD ((w64 (((zJ.length : Nat) : Int) - 1)).toNat) default).hi) ((GS.at zO zK).hi)⟩ : S_Span)) (w64 (zK + 1)) zN hf8 (by omega) (by omega) (by omega) (by omega) (by omega)
            | false =>
              have g34 := of_decide_eq_false h34
              intro hf8
              exact ih (zJ ++ [(GS.at zO zK)]) (w64 (zK + 1)) zN hf8 (by omega) (by omega) (by omega) (by omega) (by omega)
          | false =>
            have g33 := of_decide_eq_false h33
            intro hf8
            exact ih (zJ ++ [(GS.at zO zK)]) (w64 (zK + 1)) zN hf8 (by omega) (by omega) (by omega) (by omega) (by omega)
        | false =>
          have g32 := ne_of_beq_false h32
          cases h35 : decide (((zJ.length : Nat) : Int) > 0) with
          | true =>
            have g35 := of_decide_eq_true h35
            cases h36 : decide (((GS.at zP zN).lo) ≤ (w64 (((zJ.getD ((w64 (((zJ.length : Nat) : Int) - 1)).toNat) default).hi) + 1))) with
            | true =>
              have g36 := of_decide_eq_true h36
              intro hf8
              exact ih (zJ.set ((w64 (((zJ.length : Nat) : Int) - 1)).toNat) (⟨(zJ.getD ((w64 (((zJ.length : Nat) : Int) - 1)).toNat) default).lo, zC ((zJ.getD ((w64 (((zJ.length : Nat) : Int) - 1)).toNat) default).hi) ((GS.at zP zN).hi)⟩ : S_Span)) zK (w64 (zN + 1)) hf8 (by omega) (by omega) (by omega) (by simp only [List.length_append, List.length_cons, List.length_nil, za] at * <;> omega) (by simp only [srtL, zd, GS.some_l, List.length_set, List.length_append, List.length_cons, List.length_nil, za] at * <;> first | with_reducible assumption | omega)
            | false =>
              have g36 := of_decide_eq_false h36
              intro hf8
              exact ih (zJ ++ [(GS.at zP zN)]) zK (w64 (zN + 1)) hf8 (by omega) (by omega) (by omega) (by simp only [List.length_append, List.length_cons, List.length_nil, za] at * <;> omega) (by simp only [List.length_append, List.length_cons, List.length_nil, za] at * <;> omega)
          | false =>
            have g35 := of_decide_eq_false h35
            intro hf8
            exact ih (zJ ++ [(GS.at zP zN)]) zK (w64 (zN + 1)) hf8 (by omega) (by omega) (by omega) (by omega) (by omega)
      | false =>
        have g31 := of_decide_eq_false h31
        intro hf8
        exact ⟨hi1, hk1, ho1⟩
def r_Join_8_f_o1 (zO : GS S_Span) (zP : GS S_Span) : List Ora := [.rw 28 (I ((zO.l.length : Nat) : Int)), .dec true, .rw 39 (I ((zP.l.length : Nat) : Int)), .dec false, .rw 44 (I ((zO.l.length : Nat) : Int)), .dec true, .el (.agg [I ((GS.at zO 0).lo), I ((GS.at zO 0).hi)]), .el (.agg [I ((GS.at zP 0).lo), I ((GS.at zP 0).hi)])]
def r_Join_8_f_o2 (zO : GS S_Span) (zP : GS S_Span) : List Ora := [.rw 28 (I ((zO.l.length : Nat) : Int)), .dec false, .rw 33 (I ((zP.l.length : Nat) : Int)), .dec true, .rw 39 (I ((zP.l.length : Nat) : Int))]
theorem lp_r_Join_8 (zO : GS S_Span) (zP : GS S_Span) : ∀ (zT : Nat) (hf8 : r_Join_8 zO zP zT ≠ .out) (ha32 : zO.l.length ≤ 1073741824) (hb32 : zP.l.length ≤ 1073741824), (lim cfg).loop 75 lp75_8 ⟨107, [(3, .sl zO.nl (zO.l.map S_Span.D) (zsl zO.nl 2) none), (4, .sl zP.nl (zP.l.map S_Span.D) (zsl zP.nl 2) none), (5, .sl true [] 0 none), (6, I 0), (7, I 0)], [], 0, 0⟩ = some (lr_r_Join_8 zO zP (r_Join_8 zO zP zT)) := by
  intro zT
  induction zT with
  | zero =>
    intro hf8 ha32 hb32
    exact absurd rfl hf8
  | succ zT ih =>
    intro hf8 ha32 hb32
    unfold r_Join_8 at hf8 ⊢
    revert hf8
    cases h37 : decide (0 < ((zO.l.length : Nat) : Int)) with
    | true =>
      have g37 := of_decide_eq_true h37
      cases h38 : (0 == ((zP.l.length : Nat) : Int)) with
      | true =>
        have g38 := eq_of_beq h38
        intro hf8
        exact po_turn [.rw 28 (I ((zO.l.length : Nat) : Int)), .dec true, .rw 39 (I ((zP.l.length : Nat) : Int)), .dec true, .el (.agg [I ((GS.at zO 0).lo), I ((GS.at zO 0).hi)]), .rw 65 (I 1), .dec false] (And.intro (Eq.refl false) (And.intro (zadd_rw (x := 1) (by omega)) (And.intro (el_in (s := zO) (f := S_Span.D) (k := 2) (i := 0) (by omega) (by omega)) (And.intro h38 (And.intro (zb S_Span.D zP) (And.intro h37 (And.intro (zb S_Span.D zO) trivial))))))) (lp_r_Join_8a zO zP _ [(GS.at zO 0)] 1 0 hf8 (by omega) (by omega) (by omega) (by omega) (by simp only [List.length_append, List.length_cons, List.length_nil] at * <;> omega)) (by kernel_rfl)
      | false =>
        have g38 := ne_of_beq_false h38
        have p1 := (el_in (s := zO) (f := S_Span.D) (k := 2) (i := 0) (by omega) (by omega))
        have p2 := (el_in (s := zP) (f := S_Span.D) (k := 2) (i := 0) (by omega) (by omega))
        cases h39 : decide (((GS.at zO 0).lo) ≤ ((GS.at zP 0).lo)) with
        | true =>
          have g39 := of_decide_eq_true h39
          intro hf8
          exact po_turn ((r_Join_8_f_o1 zO zP) ++ [.dec true, .el (.agg [I ((GS.at zO 0).lo), I ((GS.at zO 0).hi)]), .rw 65 (I 1), .dec false]) (And.intro (Eq.refl false) (And.intro (zadd_rw (x := 1) (by omega)) (And.intro (el_in (s := zO) (f := S_Span.D) (k := 2) (i := 0) (by omega) (by omega)) (And.intro h39 (And.intro p2 (And.intro p1 (And.intro h37 (And.intro (zb S_Span.D zO) (And.intro h38 (And.intro (zb S_Span.D zP) (And.intro h37 (And.intro (zb S_Span.D zO) trivial)))))))))))) (lp_r_Join_8a zO zP _ [(GS.at zO 0)] 1 0 hf8 (by omega) (by omega) (by omega) (by omega) (by simp only [List.length_append, List.length_cons, List.length_nil] at * <;> omega)) (by kernel_rfl)
        | false =>
          have g39 := of_decide_eq_false h39
          intro hf8
          exact po_turn ((r_Join_8_f_o1 zO zP) ++ [.dec false, .el (.agg [I ((GS.at zP 0).lo), I ((GS.at zP 0).hi)]), .rw 71 (I 1), .dec false]) (And.intro (Eq.refl false) (And.intro (zadd_rw (x := 1) (by omega)) (And.intro (el_in (s := zP) (f := S_Span.D) (k := 2) (i := 0) (by omega) (by omega)) (And.intro h39 (And.intro p2 (And.intro p1 (And.intro h37 (And.intro (zb S_Span.D zO) (And.intro h38 (And.intro (zb S_Span.D zP) (And.intro h37 (And.intro (zb S_Span.D zO) trivial)))))))))))) (lp_r_Join_8a zO zP _ [(GS.at zP 0)] 0 1 hf8 (by omega) (by omega) (by omega) (by omega) (by simp only [List.length_append, List.length_cons, List.length_nil] at * <;> omega)) (by kernel_rfl)
    | false =>
      have g37 := of_decide_eq_false h37
      cases h40 : decide (0 < ((zP.l.length : Nat) : Int)) with
      | true =>
        have g40 := of_decide_eq_true h40
        cases h41 : (0 == ((zP.l.length : Nat) : Int)) with
        | true =>
          have g41 := eq_of_beq h41
          intro hf8
          exact po_turn ((r_Join_8_f_o2 zO zP) ++ [.dec true, .el (.agg [I ((GS.at zO 0).lo), I ((GS.at zO 0).hi)]), .rw 65 (I 1), .dec false]) (And.intro (Eq.refl false) (And.intro (zadd_rw (x := 1) (by omega)) (And.intro (el_in (s := zO) (f := S_Span.D) (k := 2) (i := 0) (by omega) (by omega)) (And.intro h41 (And.intro (zb S_Span.D zP) (And.intro h40 (And.intro (zb S_Span.D zP) (And.intro h37 (And.intro (zb S_Span.D zO) trivial))))))))) (lp_r_Join_8a zO zP _ [(GS.at zO 0)] 1 0 hf8 (by omega) (by omega) (by omega) (by omega) (by omega)) (by kernel_rfl)
        | false =>
          have g41 := ne_of_beq_false h41
          intro hf8
          exact po_turn ((r_Join_8_f_o2 zO zP) ++ [.dec false, .rw 44 (I ((zO.l.length : Nat) : Int)), .dec false, .el (.agg [I ((GS.at zP 0).lo), I ((GS.at zP 0).hi)]), .rw 71 (I 1), .dec false]) (And.intro (Eq.refl false) (And.intro (zadd_rw (x := 1) (by omega)) (And.intro (el_in (s := zP) (f := S_Span.D) (k := 2) (i := 0) (by omega) (by omega)) (And.intro h37 (And.intro (zb S_Span.D zO) (And.intro h41 (And.intro (zb S_Span.D zP) (And.intro h40 (And.intro (zb S_Span.D zP) (And.intro h37 (And.intro (zb S_Span.D zO) trivial))))))))))) (lp_r_Join_8a zO zP _ [(GS.at zP 0)] 0 1 hf8 (by omega) (by omega) (by omega) (by omega) (by simp only [List.length_append, List.length_cons, List.length_nil] at * <;> omega)) (by kernel_rfl)
      | false =>
        have g40 := of_decide_eq_false h40
        intro hf8
        exact zI [.rw 28 (I ((zO.l.length : Nat) : Int)), .dec false, .rw 33 (I ((zP.l.length : Nat) : Int)), .dec false] (And.intro h40 (And.intro (zb S_Span.D zP) (And.intro h37 (And.intro (zb S_Span.D zO) trivial)))) (by kernel_rfl)
theorem ivt_r_Join_8 (zO : GS S_Span) (zP : GS S_Span) : ∀ (zT : Nat) (hf8 : r_Join_8 zO zP zT ≠ .out) (ha32 : zO.l.length ≤ 1073741824) (hb32 : zP.l.length ≤ 1073741824), iv_r_Join_8 zO zP (r_Join_8 zO zP zT) := by
  intro zT
  induction zT with
  | zero =>
    intro hf8 ha32 hb32
    exact absurd rfl hf8
  | succ zT ih =>
    intro hf8 ha32 hb32
    unfold r_Join_8 at hf8 ⊢
    revert hf8
    cases h37 : decide (0 < ((zO.l.length : Nat) : Int)) with
    | true =>
      have g37 := of_decide_eq_true h37
      cases h38 : (0 == ((zP.l.length : Nat) : Int)) with
      | true =>
        have g38 := eq_of_beq h38
        intro hf8
        exact ivt_r_Join_8a zO zP _ [(GS.at zO 0)] 1 0 hf8 (by omega) (by omega) (by omega) (by omega) (by simp only [List.length_append, List.length_cons, List.length_nil] at * <;> omega)
      | false =>
        have g38 := ne_of_beq_false h38
        cases h39 : decide (((GS.at zO 0).lo) ≤ ((GS.at zP 0).lo)) with
        | true =>
          have g39 := of_decide_eq_true h39
          intro hf8
          exact ivt_r_Join_8a zO zP _ [(GS.at zO 0)] 1 0 hf8 (by omega) (by omega) (by omega) (by omega) (by simp only [List.length_append, List.length_cons, List.length_nil] at * <;> omega)
        | false =>
          have g39 := of_decide_eq_false h39
          intro hf8
          exact ivt_r_Join_8a zO zP _ [(GS.at zP 0)] 0 1 hf8 (by omega) (by omega) (by omega) (by omega) (by simp only [List.length_append, List.length_cons, List.length_nil] at * <;> omega)
    | false =>
      have g37 := of_decide_eq_false h37
      cases h40 : decide (0 < ((zP.l.length : Nat) : Int)) with
      | true =>
        have g40 := of_decide_eq_true h40
        cases h41 : (0 == ((zP.l.length : Nat) : Int)) with
        | true =>
          have g41 := eq_of_beq h41
          intro hf8
          exact ivt_r_Join_8a zO zP _ [(GS.at zO 0)] 1 0 hf8 (by omega) (by omega) (by omega) (by omega) (by omega)
        | false =>
          have g41 := ne_of_beq_false h41
          intro hf8
          exact ivt_r_Join_8a zO zP _ [(GS.at zP 0)] 0 1 hf8 (by omega) (by omega) (by omega) (by omega) (by simp only [List.length_append, List.length_cons, List.length_nil] at * <;> omega)
      | false =>
        have g40 := of_decide_eq_false h40
        intro hf8
        exact trivial

theorem r_Join_ne' (p q : GS S_Span) (hp : p.l.length ≤ 1073741824) (hq : q.l.length ≤ 1073741824) : ∀ (n : Nat) (v : List S_Span) (i k : Int), 0 ≤ i → i ≤ p.l.length → 0 ≤ k → k ≤ q.l.length → (p.l.length : Int) + q.l.length - i - k < n → zr p q n v i k ≠ .out
  | 0, v, i, k, h0, h1, h2, h3, hn => by omega
  | n + 1, v, i, k, h0, h1, h2, h3, hn => by
    have hi : i < p.l.length → ∀ v', zr p q n v' (w64 (i + 1)) k ≠ .out := fun hl v' => by
      rw [w64_eq (by omega) (by omega)]
      exact r_Join_ne' p q hp hq n v' _ _ (by omega) (by omega) h2 h3 (by omega)
    have hk : k < q.l.length → ∀ v', zr p q n v' i (w64 (k + 1)) ≠ .out := fun hl v' => by
      rw [w64_eq (by omega) (by omega)]
      exact r_Join_ne' p q hp hq n v' _ _ h0 h1 (by omega) (by omega) (by omega)
    unfold zr
    simp only [Bool.cond_eq_ite]
    repeat' split
    all_goals simp only [decide_eq_true_eq, beq_iff_eq] at *
    all_goals first | (intro h; cases h; done) | (exact hi (by omega) _) | (exact hk (by omega) _) | (exfalso; omega)
theorem r_Join_ne (p q : GS S_Span) (hp : p.l.length ≤ 1073741824) (hq : q.l.length ≤ 1073741824) : r_Join_8 p q (p.l.length + q.l.length + 1) ≠ .out := by
  unfold r_Join_8
  simp only [Bool.cond_eq_ite]
  repeat' split
  all_goals simp only [decide_eq_true_eq, beq_iff_eq] at *
  all_goals first | (intro h; cases h; done) | (exact r_Join_ne' p q hp hq _ _ _ _ (by omega) (by omega) (by omega) (by omega) (by omega)) | (exfalso; omega)

def r_Join (J : GS S_Span → GS S_Span) (l : GS S_Span) : (GS S_Span) :=
  bif decide (((l.l.length : Nat) : Int) < 2) then
    l
  else
    match r_Join_8 (J (cutG l 0 (l.l.length / 2))) (J (cutG l (l.l.length / 2) l.l.length)) ((J (cutG l 0 (l.l.length / 2))).l.length + (J (cutG l (l.l.length / 2) l.l.length)).l.length + 1) with
    | .x0 zJ zK zN =>
      GS.some zJ
    | .x1 =>
      GS.nil
    | .out =>
      default

def r_Join_o1 (l : GS S_Span) (J : GS S_Span → GS S_Span) : List Ora := [.rw 11 (I ((l.l.length : Nat) : Int)), .dec false, .rw 16 (I ((l.l.length : Nat) : Int)), .rw 17 (I ((l.l.length / 2 : Nat) : Int)), .op (some 18) ⟨.sl ((cutG l 0 (l.l.length / 2)).nl) (((cutG l 0 (l.l.length / 2)).l).map S_Span.D) (zsl ((cutG l 0 (l.l.length / 2)).nl) 2) none, [], [], 0⟩, .pure (.sl ((J (cutG l 0 (l.l.length / 2))).nl) (((J (cutG l 0 (l.l.length / 2))).l).map S_Span.D) (zsl ((J (cutG l 0 (l.l.length / 2))).nl) 2) none), .rw 22 (I ((l.l.length : Nat) : Int)), .rw 23 (I ((l.l.length / 2 : Nat) : Int)), .op (some 24) ⟨.sl ((cutG l (l.l.length / 2) l.l.length).nl) (((cutG l (l.l.length / 2) l.l.length).l).map S_Span.D) (zsl ((cutG l (l.l.length / 2) l.l.length).nl) 2) none, [], [], 0⟩, .pure (.sl ((J (cutG l (l.l.length / 2) l.l.length)).nl) (((J (cutG l (l.l.length / 2) l.l.length)).l).map S_Span.D) (zsl ((J (cutG l (l.l.length / 2) l.l.length)).nl) 2) none)]

def sd20300 (l : GS S_Span) (J : GS S_Span → GS S_Span) (zJ : List S_Span) (zK : Int) (zN : Int) : St := ⟨107, [(35, B false), (34, B false), (33, I (((J (cutG l (l.l.length / 2) l.l.length)).l.length : Nat) : Int)), (32, .sl ((J (cutG l (l.l.length / 2) l.l.length)).nl) (((J (cutG l (l.l.length / 2) l.l.length)).l).map S_Span.D) (zsl ((J (cutG l (l.l.length / 2) l.l.length)).nl) 2) none), (31, I zN), (30, B false), (29, B false), (28, I (((J (cutG l 0 (l.l.length / 2))).l.length : Nat) : Int)), (27, .sl ((J (cutG l 0 (l.l.length / 2))).nl) (((J (cutG l 0 (l.l.length / 2))).l).map S_Span.D) (zsl ((J (cutG l 0 (l.l.length / 2))).nl) 2) none), (26, I zK), (3, .sl ((J (cutG l 0 (l.l.length / 2))).nl) (((J (cutG l 0 (l.l.length / 2))).l).map S_Span.D) (zsl ((J (cutG l 0 (l.l.length / 2))).nl) 2) none), (4, .sl ((J (cutG l (l.l.length / 2) l.l.length)).nl) (((J (cutG l (l.l.length / 2) l.l.length)).l).map S_Span.D) (zsl ((J (cutG l (l.l.length / 2) l.l.length)).nl) 2) none), (5, .lsl 0 0 zJ.length 2 none), (6, I zK), (7, I zN)], [(0, ⟨zJ.map S_Span.D, 2, false⟩)], 1, 0⟩

def sd20301 (l : GS S_Span) (J : GS S_Span → GS S_Span) : St := ⟨107, [(35, B false), (34, B false), (33, I (((J (cutG l (l.l.length / 2) l.l.length)).l.length : Nat) : Int)), (32, .sl ((J (cutG l (l.l.length / 2) l.l.length)).nl) (((J (cutG l (l.l.length / 2) l.l.length)).l).map S_Span.D) (zsl ((J (cutG l (l.l.length / 2) l.l.length)).nl) 2) none), (31, I 0), (30, B false), (29, B false), (28, I (((J (cutG l 0 (l.l.length / 2))).l.length : Nat) : Int)), (27, .sl ((J (cutG l 0 (l.l.length / 2))).nl) (((J (cutG l 0 (l.l.length / 2))).l).map S_Span.D) (zsl ((J (cutG l 0 (l.l.length / 2))).nl) 2) none), (26, I 0), (3, .sl ((J (cutG l 0 (l.l.length / 2))).nl) (((J (cutG l 0 (l.l.length / 2))).l).map S_Span.D) (zsl ((J (cutG l 0 (l.l.length / 2))).nl) 2) none), (4, .sl ((J (cutG l (l.l.length / 2) l.l.length)).nl) (((J (cutG l (l.l.length / 2) l.l.length)).l).map S_Span.D) (zsl ((J (cutG l (l.l.length / 2) l.l.length)).nl) 2) none), (5, .sl true [] 0 none), (6, I 0), (7, I 0)], [], 0, 0⟩

theorem T_r_Join (J : GS S_Span → GS S_Span) (l : GS S_Span) (hL : l.l.length ≤ 1073741824) (hJ : ∀ x : GS S_Span, x.l.length < l.l.length → (∀ s ∈ x.l, s ∈ l.l) → (lim cfg).pure 75 [GS.D S_Span.D 2 x] = some (GS.D S_Span.D 2 (J x))) (hJl : ∀ x : GS S_Span, (J x).l.length ≤ x.l.length) : (lim cfg).pure 75 [GS.D S_Span.D 2 l] = some (GS.D S_Span.D 2 (r_Join J l)) := by
  unfold r_Join
  cases h1 : decide (((l.l.length : Nat) : Int) < 2) with
  | true =>
    have g1 := of_decide_eq_true h1
    exact ze [.rw 11 (I ((l.l.length : Nat) : Int)), .dec true] (And.intro h1 (And.intro (zb S_Span.D l) trivial)) (by kernel_rfl)
  | false =>
    have g1 := of_decide_eq_false h1
    have p1 := (half_rw (x := l.l.length) (by omega))
    have p2 := (slice_hi (C := cfg) (objs := []) (t := 22) (f := S_Span.D) (sz := 2) (nxt := 0) (s := l) (k := l.l.length / 2) rfl rfl rfl rfl (by omega) (by omega))
    have p3 := (hJ (cutG l 0 (l.l.length / 2)) (by simp only [srtL, zd, GS.some_l, List.length_set, List.length_append, List.length_cons, List.length_nil] at * <;> first | with_reducible assumption | omega) (cut_sub _ _ _))
    have p4 := (half_rw (x := l.l.length) (by omega))
    have p5 := (slice_lo (C := cfg) (objs := []) (t := 22) (f := S_Span.D) (sz := 2) (nxt := 0) (s := l) (k := l.l.length / 2) rfl rfl rfl rfl (by omega) (by omega))
    have p6 := (hJ (cutG l (l.l.length / 2) l.l.length) (by simp only [srtL, zd, GS.some_l, List.length_set, List.length_append, List.length_cons, List.length_nil] at * <;> first | with_reducible assumption | omega) (cut_sub _ _ _))
    cases h42 : r_Join_8 (J (cutG l 0 (l.l.length / 2))) (J (cutG l (l.l.length / 2) l.l.length)) ((J (cutG l 0 (l.l.length / 2))).l.length + (J (cutG l (l.l.length / 2) l.l.length)).l.length + 1) with
    | x0 zJ zK zN =>
      try dsimp only
      have hv_h42 := ivt_r_Join_8 (J (cutG l 0 (l.l.length / 2))) (J (cutG l (l.l.length / 2) l.l.length)) ((J (cutG l 0 (l.l.length / 2))).l.length + (J (cutG l (l.l.length / 2) l.l.length)).l.length + 1) (r_Join_ne _ _ (Nat.le_trans (hJl _) (by rw [zd]; omega)) (Nat.le_trans (hJl _) (by rw [zd]; omega))) (by exact Nat.le_trans (hJl _) (by rw [zd]; omega)) (by exact Nat.le_trans (hJl _) (by rw [zd]; omega))
      rw [h42] at hv_h42
      obtain ⟨hv_h42_0, hv_h42_1, hv_h42_2⟩ := hv_h42
      try dsimp only [iv_r_Join_8] at hv_h42_0
      try dsimp only [iv_r_Join_8] at hv_h42_1
      try dsimp only [iv_r_Join_8] at hv_h42_2
      exact po_pureS ((r_Join_o1 l J) ++ [.loop (.exit 0) (sd20300 l J zJ zK zN)]) [(0, .sl false (zJ.map S_Span.D) 2 none, [0])] (And.intro (snap_row (gO := zj [(0, ⟨zJ.map S_Span.D, 2, false⟩)]) (o := 0) (len := zJ.length) (cap := none) (fz := false) z7 zJ (by kernel_rfl) (by omega)) (And.intro (po_lr (q := lr_r_Join_8 (J (cutG l 0 (l.l.length / 2))) (J (cutG l (l.l.length / 2) l.l.length))) (lp_r_Join_8 (J (cutG l 0 (l.l.length / 2))) (J (cutG l (l.l.length / 2) l.l.length)) ((J (cutG l 0 (l.l.length / 2))).l.length + (J (cutG l (l.l.length / 2) l.l.length)).l.length + 1) (r_Join_ne _ _ (Nat.le_trans (hJl _) (by rw [zd]; omega)) (Nat.le_trans (hJl _) (by rw [zd]; omega))) (by exact Nat.le_trans (hJl _) (by rw [zd]; omega)) (by exact Nat.le_trans (hJl _) (by rw [zd]; omega))) h42) (And.intro p6 (And.intro p5 (And.intro p4 (And.intro (zb S_Span.D l) (And.intro p3 (And.intro p2 (And.intro p1 (And.intro (zb S_Span.D l) (And.intro h1 (And.intro (zb S_Span.D l) trivial)))))))))))) (by kernel_rfl)
    | x1 =>
      try dsimp only
      exact ze ((r_Join_o1 l J) ++ [.loop (.exit 0) (sd20301 l J)]) (And.intro (po_lr (q := lr_r_Join_8 (J (cutG l 0 (l.l.length / 2))) (J (cutG l (l.l.length / 2) l.l.length))) (lp_r_Join_8 (J (cutG l 0 (l.l.length / 2))) (J (cutG l (l.l.length / 2) l.l.length)) ((J (cutG l 0 (l.l.length / 2))).l.length + (J (cutG l (l.l.length / 2) l.l.length)).l.length + 1) (r_Join_ne _ _ (Nat.le_trans (hJl _) (by rw [zd]; omega)) (Nat.le_trans (hJl _) (by rw [zd]; omega))) (by exact Nat.le_trans (hJl _) (by rw [zd]; omega)) (by exact Nat.le_trans (hJl _) (by rw [zd]; omega))) h42) (And.intro p6 (And.intro p5 (And.intro p4 (And.intro (zb S_Span.D l) (And.intro p3 (And.intro p2 (And.intro p1 (And.intro (zb S_Span.D l) (And.intro h1 (And.intro (zb S_Span.D l) trivial))))))))))) (by kernel_rfl)
    | out =>
      exact absurd h42 ((r_Join_ne _ _ (Nat.le_trans (hJl _) (by rw [zd]; omega)) (Nat.le_trans (hJl _) (by rw [zd]; omega))))
end Go.VS

namespace Go.VS
open Go Go.Proofs
set_option maxHeartbeats 0
set_option linter.unusedSimpArgs false
set_option linter.unusedVariables false
end Go.VS

/-
  Ranges: the loop that joins spans in order, plainly (printed by go/rg.py, a program of this claim's own; nothing of it is trusted).
-/
namespace Go.VS
open Go
set_option maxHeartbeats 0
set_option linter.unusedSimpArgs false
set_option linter.unusedVariables false
theorem getD_last {v : List S_Span} {c : S_Span} : (v ++ [c]).getD v.length default = c := by
  rw [List.getD_eq_getElem?_getD, List.getElem?_append_right (Nat.le_refl _)]; simp
theorem set_last {v : List S_Span} {c d : S_Span} : (v ++ [c]).set v.length d = v ++ [d] := by
  rw [List.set_append_right _ _ (Nat.le_refl _)]; simp
theorem len_last {v : List S_Span} {c : S_Span} : w64 ((((v ++ [c]).length : Nat) : Int) - 1) = ((v.length : Nat) : Int) ∨ 9223372036854775807 < v.length := by
  by_cases h : 9223372036854775807 < v.length
  · exact .inr h
  · left
    simp only [List.length_append, List.length_cons, List.length_nil]
    rw [w64_eq (by omega) (by omega)]; omega
def ArL (l : List S_Span) : Prop := ∀ s ∈ l, Ar s.lo ∧ Ar s.hi

theorem ranges_gathered_4_ok : ∀ (l : List S_Span) (i : Nat) (v : List S_Span) (c : S_Span), ArL l → Ar c.hi → v.length + l.length ≤ 1099511627776 → zx l i (v ++ [c]) = .x0 (v ++ jn c l)
  | [], i, v, c, _, _, _ => rfl
  | x :: l, i, v, c, h, hc, hv => by
    have hx := h x List.mem_cons_self
    have h' : ArL l := fun t ht => h t (List.mem_cons_of_mem _ ht)
    simp only [List.length_cons] at hv
    unfold zx jn
    rw [area_iff.2 hx.1, area_iff.2 hx.2]
    have hl : w64 ((((v ++ [c]).length : Nat) : Int) - 1) = ((v.length : Nat) : Int) := by
      rcases len_last (v := v) (c := c) with e | e
      · exact e
      · omega
    have hp : decide ((((v ++ [c]).length : Nat) : Int) > 0) = true := decide_eq_true (by simp only [List.length_append, List.length_cons, List.length_nil]; omega)
    rw [hl, hp, Int.toNat_natCast, getD_last, set_last]
    unfold Ar at hc
    have hx2 := hx.2
    unfold Ar at hx2
    rw [w64_eq (n := c.hi + 1) (by omega) (by omega), imax_eq]
    by_cases hle : x.lo ≤ c.hi + 1
    · rw [decide_eq_true hle, if_pos hle]
      exact ranges_gathered_4_ok l (i + 1) v ⟨c.lo, max c.hi x.hi⟩ h' (by unfold Ar; simp only; omega) (by omega)
    · rw [decide_eq_false hle, if_neg hle]
      have := ranges_gathered_4_ok l (i + 1) (v ++ [c]) x h' hx.2 (by simp only [List.length_append, List.length_cons, List.length_nil]; omega)
      simp only [cond_true, cond_false]
      rw [this, List.append_assoc]; rfl
def ranges_gathered_4_er : LR_ranges_gathered_4 → Bool
  | .x1 _ _ _ => true
  | .x2 _ _ _ => true
  | .x4 _ _ => true
  | .x5 _ _ => true
  | _ => false
theorem ranges_gathered_4_bad : ∀ (l : List S_Span) (i : Nat) (v : List S_Span), ¬ ArL l → ranges_gathered_4_er (zx l i v) = true
  | [], i, v, h => absurd (fun s hs => by cases hs) h
  | x :: l, i, v, h => by
    unfold zx
    cases h1 : zm x.lo with
    | false => rfl
    | true =>
      cases h2 : zm x.hi with
      | false => rfl
      | true =>
        have h' : ¬ ArL l := fun k => h fun s hs => by
          rcases List.mem_cons.1 hs with rfl | hs
          · exact ⟨area_iff.1 h1, area_iff.1 h2⟩
          · exact k s hs
        have ih := fun v => ranges_gathered_4_bad l (i + 1) v h'
        simp only [cond_true]
        cases decide (((v.length : Nat) : Int) > 0) with
        | false => exact ih _
        | true =>
          simp only [cond_true]
          cases decide (x.lo ≤ w64 ((v.getD ((w64 (((v.length : Nat) : Int) - 1)).toNat) default).hi + 1)) <;> exact ih _
theorem ranges_gathered_4_at {l : List S_Span} (hne : l ≠ []) (hl : l.length ≤ 1099511627776) : (ArL l ∧ ranges_gathered_4 (srtG gcmp l) 0 = .x0 (can gcmp l)) ∨ (¬ ArL l ∧ ranges_gathered_4_er (ranges_gathered_4 (srtG gcmp l) 0) = true) := by
  have hp := srtG_perm gcmp_lo l
  have hlen := srtG_len gcmp_lo l
  have har : ArL (srtG gcmp l) ↔ ArL l := ⟨fun h s hs => h s (hp.mem_iff.2 hs), fun h s hs => h s (hp.mem_iff.1 hs)⟩
  rw [← har]
  unfold can
  have hne' : srtG gcmp l ≠ [] := fun h => hne (by rw [h] at hp; exact List.nil_perm.1 hp)
  generalize srtG gcmp l = q at *
  cases q with
  | nil => exact absurd rfl hne'
  | cons c q =>
    simp only [List.length_cons] at hlen
    unfold ranges_gathered_4 jnL
    dsimp only
    by_cases hc : Ar c.lo ∧ Ar c.hi
    · rw [area_iff.2 hc.1, area_iff.2 hc.2]
      by_cases hq : ArL q
      · left
        refine ⟨fun s hs => ?_, ?_⟩
        · rcases List.mem_cons.1 hs with rfl | hs
          · exact hc
          · exact hq s hs
        · exact ranges_gathered_4_ok q 1 [] c hq hc.2 (by simp; omega)
      · right
        exact ⟨fun h => hq fun s hs => h s (List.mem_cons_of_mem _ hs), ranges_gathered_4_bad q 1 [c] hq⟩
    · right
      refine ⟨fun h => hc (h c List.mem_cons_self), ?_⟩
      cases h1 : zm c.lo with
      | false => rfl
      | true =>
        cases h2 : zm c.hi with
        | false => rfl
        | true => exact absurd ⟨area_iff.1 h1, area_iff.1 h2⟩ hc

end Go.VS

/-
  Ranges: the loops over pairs, plainly (printed by go/rp.py, a program of this claim's own; nothing of it is trusted).
-/
namespace Go.VS
open Go
set_option maxHeartbeats 0
theorem flat_cons_emp {α : Type} {f : α → List S_Span} {x : α} {l : List α} (h : (f x).isEmpty = true) : (x :: l).flatMap f = l.flatMap f := by
  have : f x = [] := by simpa using h
  rw [List.flatMap_cons, this]; rfl

end Go.VS

/-
  Ranges: what sums, differences, common and other parts come to (printed by go/ri.py, a program of this claim's own; nothing of it is trusted).
-/
namespace Go.VS
open Go
set_option maxHeartbeats 0
/-- What is made of spans. -/
def GR (l : List S_Span) (res : GS S_Span × Int) : Prop := (ArL l ∧ (can gcmp l).length ≤ 64 ∧ res.1.l = can gcmp l ∧ res.2 = 0) ∨ ((¬ ArL l ∨ 64 < (can gcmp l).length) ∧ res = (GS.nil, 2))
theorem can_nil : can gcmp [] = [] := by
  have : srtG gcmp [] = [] := List.length_eq_zero_iff.1 (by rw [srtG_len gcmp_lo]; rfl)
  unfold can; rw [this]; rfl
theorem GR_nil : GR [] (GS.nil, 0) := .inl ⟨(fun s hs => by cases hs), by rw [can_nil]; simp, by rw [can_nil]; rfl, rfl⟩
theorem GR_end {l : List S_Span} (h : ArL l) : GR l (bif decide ((((can gcmp l).length : Nat) : Int) > 64) then (GS.nil, 2) else (GS.some (can gcmp l), 0)) := by
  cases hd : decide ((((can gcmp l).length : Nat) : Int) > 64) with
  | true => have := of_decide_eq_true hd; exact .inr ⟨.inr (by omega), rfl⟩
  | false => have := of_decide_eq_false hd; exact .inl ⟨h, by omega, rfl, rfl⟩
/-- A range or that it does not fit. -/
def Res (S : Int → Prop) (res : GS S_Span × Int) : Prop := (res.2 = 0 ∧ Ok res.1.l ∧ Rg S res.1.l) ∨ res = (GS.nil, 2)
theorem GR.res {l : List S_Span} {res : GS S_Span × Int} (hl : ∀ s ∈ l, s.lo ≤ s.hi) (h : GR l res) : Res (In l) res := by
  rcases h with ⟨h1, h2, h3, h4⟩ | ⟨_, h⟩
  · left
    have k := can_rg gcmp_lo hl
    rw [h3]
    refine ⟨h4, ⟨k.1, cn_bd k.1 fun x hx => ?_, h2⟩, k⟩
    obtain ⟨s, hs, a, b⟩ := (k.2 x).1 hx
    have := h1 s hs
    unfold Ar at this
    omega
  · exact .inr h
theorem Res.congr {S T : Int → Prop} {res : GS S_Span × Int} (h : Res S res) (e : ∀ x, S x ↔ T x) : Res T res := h.imp (fun ⟨a, b, c⟩ => ⟨a, b, c.congr e⟩) id

end Go.VS

/-
  Ranges: the reference's Join, plainly. (A text of this claim's own; nothing of it is trusted.)
-/
namespace Go.VS
open Go
set_option maxHeartbeats 0
/-- Two lists of spans in order, as one. -/
def mrg : List S_Span → List S_Span → List S_Span
  | [], q => q
  | p, [] => p
  | a :: p, b :: q => if a.lo ≤ b.lo then a :: mrg p (b :: q) else b :: mrg (a :: p) q
termination_by p q => p.length + q.length
theorem mrg_nil (p : List S_Span) : mrg p [] = p := by cases p <;> simp [mrg]
theorem nil_mrg (q : List S_Span) : mrg [] q = q := by simp [mrg]
theorem mrg_cons (a b : S_Span) (p q : List S_Span) : mrg (a :: p) (b :: q) = if a.lo ≤ b.lo then a :: mrg p (b :: q) else b :: mrg (a :: p) q := by rw [mrg]
theorem mrg_perm : ∀ (p q : List S_Span), List.Perm (mrg p q) (p ++ q)
  | [], q => by rw [nil_mrg]; exact List.Perm.refl _
  | a :: p, [] => by rw [mrg_nil, List.append_nil]
  | a :: p, b :: q => by
    rw [mrg_cons]
    split
    · exact (mrg_perm p (b :: q)).cons a
    · exact ((mrg_perm (a :: p) q).cons b).trans (List.perm_middle.symm)
termination_by p q => p.length + q.length
theorem mrg_srt : ∀ (p q : List S_Span), srtS p → srtS q → srtS (mrg p q)
  | [], q, _, hq => by rw [nil_mrg]; exact hq
  | a :: p, [], hp, _ => by rw [mrg_nil]; exact hp
  | a :: p, b :: q, hp, hq => by
    rw [mrg_cons]
    have ha := List.pairwise_cons.1 hp
    have hb := List.pairwise_cons.1 hq
    split
    · rename_i h
      refine List.pairwise_cons.2 ⟨fun s hs => ?_, mrg_srt p (b :: q) ha.2 hq⟩
      rcases List.mem_append.1 ((mrg_perm p (b :: q)).mem_iff.1 hs) with k | k
      · exact ha.1 s k
      · rcases List.mem_cons.1 k with rfl | k
        · exact h
        · have := hb.1 s k; omega
    · rename_i h
      refine List.pairwise_cons.2 ⟨fun s hs => ?_, mrg_srt (a :: p) q hp hb.2⟩
      rcases List.mem_append.1 ((mrg_perm (a :: p) q).mem_iff.1 hs) with k | k
      · rcases List.mem_cons.1 k with rfl | k
        · omega
        · have := ha.1 s k; omega
      · exact hb.1 s k
termination_by p q => p.length + q.length
theorem cn_srt : ∀ {l : List S_Span}, cn l → srtS l
  | [], _ => List.Pairwise.nil
  | s :: l, h => List.pairwise_cons.2 ⟨fun t ht => by
      have := h.2.1 t ht
      have := h.1
      omega, cn_srt h.2.2⟩
/-- Bounds far from the ends. -/
def Bd (l : List S_Span) : Prop := ∀ s ∈ l, -2305843009213693952 ≤ s.lo ∧ s.lo ≤ s.hi ∧ s.hi ≤ 2305843009213693952
section
variable {β : Type} (F : List S_Span → β) {v : List S_Span} {c x : S_Span}
theorem stp (hc : -2305843009213693952 ≤ c.hi ∧ c.hi ≤ 2305843009213693952) (hv : v.length ≤ 4611686018427387904) :
    (bif decide ((((v ++ [c]).length : Nat) : Int) > 0) then
      bif decide (x.lo ≤ (w64 ((((v ++ [c]).getD ((w64 ((((v ++ [c]).length : Nat) : Int) - 1)).toNat) default).hi) + 1))) then
        F ((v ++ [c]).set ((w64 ((((v ++ [c]).length : Nat) : Int) - 1)).toNat) (⟨((v ++ [c]).getD ((w64 ((((v ++ [c]).length : Nat) : Int) - 1)).toNat) default).lo, zC (((v ++ [c]).getD ((w64 ((((v ++ [c]).length : Nat) : Int) - 1)).toNat) default).hi) (x.hi)⟩ : S_Span))
      else F (v ++ [c] ++ [x])
    else F (v ++ [c] ++ [x])) = if x.lo ≤ c.hi + 1 then F (v ++ [⟨c.lo, max c.hi x.hi⟩]) else F (v ++ [c] ++ [x]) := by
  have hl : w64 ((((v ++ [c]).length : Nat) : Int) - 1) = ((v.length : Nat) : Int) := by
    rcases len_last (v := v) (c := c) with e | e
    · exact e
    · omega
  have hp : decide ((((v ++ [c]).length : Nat) : Int) > 0) = true := decide_eq_true (by simp only [List.length_append, List.length_cons, List.length_nil]; omega)
  rw [hl, hp, Int.toNat_natCast, getD_last, set_last, w64_eq (by omega) (by omega), imax_eq]
  by_cases h : x.lo ≤ c.hi + 1
  · rw [decide_eq_true h, if_pos h]; rfl
  · rw [decide_eq_false h, if_neg h]; rfl
end
theorem at_drop {p : GS S_Span} {i : Nat} {a : S_Span} {l : List S_Span} (h : p.l.drop i = a :: l) : GS.at p ((i : Nat) : Int) = a := by
  unfold GS.at
  rw [Int.toNat_natCast, List.getD_eq_getElem?_getD]
  have : p.l[i]? = some a := by rw [← List.head?_drop, h]; rfl
  rw [this]; rfl
theorem drop_lt {p : List S_Span} {i : Nat} {a : S_Span} {l : List S_Span} (h : p.drop i = a :: l) : i < p.length ∧ p.drop (i + 1) = l := by
  constructor
  · rcases Nat.lt_or_ge i p.length with k | k
    · exact k
    · rw [List.drop_of_length_le k] at h; cases h
  · rw [← List.drop_drop, h]; rfl
theorem bd_drop {l : List S_Span} (h : Bd l) {i : Nat} {a : S_Span} {r : List S_Span} (e : l.drop i = a :: r) : -2305843009213693952 ≤ a.lo ∧ a.lo ≤ a.hi ∧ a.hi ≤ 2305843009213693952 :=
  h a (List.mem_of_mem_drop (by rw [e]; exact List.mem_cons_self))
section
variable {p q : GS S_Span} (hp : p.l.length ≤ 1073741824) (hq : q.l.length ≤ 1073741824) (bp : Bd p.l) (bq : Bd q.l)
include hp hq bp bq
theorem join8a : ∀ (n i k : Nat) (v : List S_Span) (c : S_Span), (p.l.drop i).length + (q.l.drop k).length < n → i ≤ p.l.length → k ≤ q.l.length → v.length ≤ 4294967296 + i + k → (-2305843009213693952 ≤ c.hi ∧ c.hi ≤ 2305843009213693952) →
    ∃ i' k', zr p q n (v ++ [c]) ((i : Nat) : Int) ((k : Nat) : Int) = .x0 (v ++ jn c (mrg (p.l.drop i) (q.l.drop k))) i' k'
  | 0, i, k, v, c, h, _, _, _, _ => by omega
  | n + 1, i, k, v, c, h, hi, hk, hv, hc => by
    have stepP : ∀ a l, p.l.drop i = a :: l → ∀ r, jn c (a :: r) = (if a.lo ≤ c.hi + 1 then jn ⟨c.lo, max c.hi a.hi⟩ r else c :: jn a r) := fun a l _ r => rfl
    have wi : i < p.l.length → w64 (((i : Nat) : Int) + 1) = ((i + 1 : Nat) : Int) := fun h => by rw [w64_eq (by omega) (by omega)]; omega
    have wk : k < q.l.length → w64 (((k : Nat) : Int) + 1) = ((k + 1 : Nat) : Int) := fun h => by rw [w64_eq (by omega) (by omega)]; omega
    -- the next span is one of the first list
    have takeP : ∀ a l, p.l.drop i = a :: l → ∃ i' k', (if a.lo ≤ c.hi + 1 then zr p q n (v ++ [⟨c.lo, max c.hi a.hi⟩]) ((i + 1 : Nat) : Int) ((k : Nat) : Int) else zr p q n (v ++ [c] ++ [a]) ((i + 1 : Nat) : Int) ((k : Nat) : Int)) = .x0 (v ++ jn c (a :: mrg l (q.l.drop k))) i' k' := fun a l e => by
      obtain ⟨h1, h2⟩ := drop_lt e
      have hb := bd_drop bp e
      have hlen : (p.l.drop (i + 1)).length + (q.l.drop k).length < n := by rw [e] at h; rw [h2]; simp only [List.length_cons] at h; omega
      unfold jn
      split
      · obtain ⟨i', k', e1⟩ := join8a n (i + 1) k v ⟨c.lo, max c.hi a.hi⟩ hlen (by omega) hk (by omega) (by simp only; omega)
        rw [h2] at e1
        exact ⟨i', k', e1⟩
      · obtain ⟨i', k', e1⟩ := join8a n (i + 1) k (v ++ [c]) a hlen (by omega) hk (by simp only [List.length_append, List.length_cons, List.length_nil]; omega) (by omega)
        rw [h2, List.append_assoc] at e1
        exact ⟨i', k', by rw [List.append_assoc] at e1 ⊢; exact e1⟩
    have takeQ : ∀ b l, q.l.drop k = b :: l → ∃ i' k', (if b.lo ≤ c.hi + 1 then zr p q n (v ++ [⟨c.lo, max c.hi b.hi⟩]) ((i : Nat) : Int) ((k + 1 : Nat) : Int) else zr p q n (v ++ [c] ++ [b]) ((i : Nat) : Int) ((k + 1 : Nat) : Int)) = .x0 (v ++ jn c (b :: mrg (p.l.drop i) l)) i' k' := fun b l e => by
      obtain ⟨h1, h2⟩ := drop_lt e
      have hb := bd_drop bq e
      have hlen : (p.l.drop i).length + (q.l.drop (k + 1)).length < n := by rw [e] at h; rw [h2]; simp only [List.length_cons] at h; omega
      unfold jn
      split
      · obtain ⟨i', k', e1⟩ := join8a n i (k + 1) v ⟨c.lo, max c.hi b.hi⟩ hlen hi (by omega) (by omega) (by simp only; omega)
        rw [h2] at e1
        exact ⟨i', k', e1⟩
      · obtain ⟨i', k', e1⟩ := join8a n i (k + 1) (v ++ [c]) b hlen hi (by omega) (by simp only [List.length_append, List.length_cons, List.length_nil]; omega) (by omega)
        rw [h2, List.append_assoc] at e1
        exact ⟨i', k', by rw [List.append_assoc] at e1 ⊢; exact e1⟩
    unfold zr
    have fP := fun (x : S_Span) => stp (F := fun z => zr p q n z (w64 (((i : Nat) : Int) + 1)) ((k : Nat) : Int)) (v := v) (c := c) (x := x) hc (by omega)
    have fQ := fun (x : S_Span) => stp (F := fun z => zr p q n z ((i : Nat) : Int) (w64 (((k : Nat) : Int) + 1))) (v := v) (c := c) (x := x) hc (by omega)
    cases eP : p.l.drop i with
    | nil =>
      have hip : ¬ i < p.l.length := fun h => by have := congrArg List.length eP; simp at this; omega
      rw [decide_eq_false (show ¬ ((i : Nat) : Int) < ((p.l.length : Nat) : Int) by omega), cond_false]
      cases eQ : q.l.drop k with
      | nil =>
        have hkq : ¬ k < q.l.length := fun h => by have := congrArg List.length eQ; simp at this; omega
        rw [decide_eq_false (show ¬ ((k : Nat) : Int) < ((q.l.length : Nat) : Int) by omega), cond_false, mrg_nil]
        exact ⟨_, _, rfl⟩
      | cons b l =>
        obtain ⟨h1, h2⟩ := drop_lt eQ
        have hne : (((k : Nat) : Int) == ((q.l.length : Nat) : Int)) = false := beq_eq_false_iff_ne.2 (by omega)
        rw [decide_eq_true (show ((k : Nat) : Int) < ((q.l.length : Nat) : Int) by omega), cond_true, hne, cond_false, at_drop eQ]
        have := fQ b
        try dsimp only at this
        rw [this, wk h1, nil_mrg]
        have t := takeQ b l eQ
        rw [eP, nil_mrg] at t
        exact t
    | cons a l =>
      obtain ⟨h1, h2⟩ := drop_lt eP
      rw [decide_eq_true (show ((i : Nat) : Int) < ((p.l.length : Nat) : Int) by omega), cond_true]
      cases eQ : q.l.drop k with
      | nil =>
        have hkq : ¬ k < q.l.length := fun h => by have := congrArg List.length eQ; simp at this; omega
        have he : (((k : Nat) : Int) == ((q.l.length : Nat) : Int)) = true := by rw [beq_iff_eq]; omega
        rw [he, cond_true, at_drop eP]
        have := fP a
        try dsimp only at this
        rw [this, wi h1, mrg_nil]
        have t := takeP a l eP
        rw [eQ, mrg_nil] at t
        exact t
      | cons b l' =>
        obtain ⟨k1, k2⟩ := drop_lt eQ
        have hne : (((k : Nat) : Int) == ((q.l.length : Nat) : Int)) = false := beq_eq_false_iff_ne.2 (by omega)
        rw [hne, cond_false, at_drop eP, at_drop eQ, mrg_cons]
        by_cases hab : a.lo ≤ b.lo
        · rw [decide_eq_true hab, cond_true, if_pos hab]
          have := fP a
          try dsimp only at this
          rw [this, wi h1]
          have t := takeP a l eP
          rw [eQ] at t
          exact t
        · rw [decide_eq_false hab, cond_false, if_neg hab]
          have := fQ b
          try dsimp only at this
          rw [this, wk k1]
          have t := takeQ b l' eQ
          rw [eP] at t
          exact t
theorem join8 : (mrg p.l q.l = [] ∧ r_Join_8 p q (p.l.length + q.l.length + 1) = .x1) ∨ ∃ i' k', r_Join_8 p q (p.l.length + q.l.length + 1) = .x0 (jnL (mrg p.l q.l)) i' k' := by
  unfold r_Join_8
  dsimp only
  have one : ∀ (i k : Nat) (c : S_Span) (r : List S_Span), i + k = 1 → i ≤ p.l.length → k ≤ q.l.length → (-2305843009213693952 ≤ c.lo ∧ c.lo ≤ c.hi ∧ c.hi ≤ 2305843009213693952) → mrg p.l q.l = c :: mrg (p.l.drop i) (q.l.drop k) → ∃ i' k', zr p q (p.l.length + q.l.length) [c] ((i : Nat) : Int) ((k : Nat) : Int) = .x0 (jnL (mrg p.l q.l)) i' k' := fun i k c r hs hi hk hc e => by
    obtain ⟨i', k', e1⟩ := join8a hp hq bp bq (p.l.length + q.l.length) i k [] c (by simp only [List.length_drop]; omega) hi hk (by simp) (by omega)
    exact ⟨i', k', by rw [e]; exact e1⟩
  cases eP : p.l with
  | nil =>
    simp only [List.length_nil, Int.natCast_zero, Int.lt_irrefl, decide_false, cond_false, Nat.zero_add]
    cases eQ : q.l with
    | nil => exact .inl ⟨by rw [nil_mrg], rfl⟩
    | cons b l =>
      right
      have hb := bq b (by rw [eQ]; exact List.mem_cons_self)
      have t := one 0 1 b l rfl (by omega) (by rw [eQ]; simp) hb (by rw [eP, eQ]; simp [nil_mrg])
      rw [eP, eQ] at t
      have e0 : GS.at q 0 = b := at_drop (i := 0) (l := l) (by rw [List.drop_zero, eQ])
      have h1 : decide ((0 : Int) < (((b :: l).length : Nat) : Int)) = true := decide_eq_true (by simp only [List.length_cons]; omega)
      have h2 : ((0 : Int) == (((b :: l).length : Nat) : Int)) = false := beq_eq_false_iff_ne.2 (by simp only [List.length_cons]; omega)
      rw [h1, h2, e0]
      simp only [List.length_nil, Nat.zero_add] at t
      exact t
  | cons a l =>
    right
    have ha := bp a (by rw [eP]; exact List.mem_cons_self)
    have e0 : GS.at p 0 = a := at_drop (i := 0) (l := l) (by rw [List.drop_zero, eP])
    have h1 : decide ((0 : Int) < (((a :: l).length : Nat) : Int)) = true := decide_eq_true (by simp only [List.length_cons]; omega)
    rw [h1, e0, cond_true]
    cases eQ : q.l with
    | nil =>
      have t := one 1 0 a l rfl (by rw [eP]; simp) (by omega) ha (by rw [eP, eQ]; simp [mrg_nil])
      rw [eP, eQ] at t
      exact t
    | cons b l' =>
      have hb := bq b (by rw [eQ]; exact List.mem_cons_self)
      have f0 : GS.at q 0 = b := at_drop (i := 0) (l := l') (by rw [List.drop_zero, eQ])
      have h2 : ((0 : Int) == (((b :: l').length : Nat) : Int)) = false := beq_eq_false_iff_ne.2 (by simp only [List.length_cons]; omega)
      rw [h2, f0, cond_false]
      by_cases hab : a.lo ≤ b.lo
      · rw [decide_eq_true hab, cond_true]
        have t := one 1 0 a l rfl (by rw [eP]; simp) (by omega) ha (by rw [eP, eQ, mrg_cons, if_pos hab]; rfl)
        rw [eP, eQ] at t
        exact t
      · rw [decide_eq_false hab, cond_false]
        have t := one 0 1 b l' rfl (by omega) (by rw [eQ]; simp) hb (by rw [eP, eQ, mrg_cons, if_neg hab]; rfl)
        rw [eP, eQ] at t
        exact t
end
theorem jn_len : ∀ (l : List S_Span) (c : S_Span), (jn c l).length ≤ l.length + 1
  | [], c => Nat.le_refl _
  | x :: l, c => by
    unfold jn
    split
    · have := jn_len l ⟨c.lo, max c.hi x.hi⟩; simp only [List.length_cons]; omega
    · have := jn_len l x; simp only [List.length_cons]; omega
theorem can_len (l : List S_Span) : (can gcmp l).length ≤ l.length := by
  have h := srtG_len gcmp_lo l
  unfold can jnL
  cases e : srtG gcmp l with
  | nil => simp
  | cons x r => rw [e] at h; simp only [List.length_cons] at h; have := jn_len r x; simp only; omega
theorem can_one (s : S_Span) (h : s.lo ≤ s.hi) : can gcmp [s] = [s] :=
  (can_rg gcmp_lo (by intro t ht; rw [List.mem_singleton.1 ht]; exact h)).unique ⟨⟨h, (fun _ h => by cases h), trivial⟩, fun _ => Iff.rfl⟩
theorem can_bd {l : List S_Span} (h : Bd l) : Bd (can gcmp l) := fun s hs => by
  have hr := can_rg gcmp_lo (l := l) fun s hs => (h s hs).2.1
  have hn := cn_mem hr.1 hs
  obtain ⟨t, ht, h1, h2⟩ := (hr.2 s.lo).1 ⟨s, hs, Int.le_refl _, hn⟩
  obtain ⟨u, hu, h3, h4⟩ := (hr.2 s.hi).1 ⟨s, hs, hn, Int.le_refl _⟩
  have b1 := h t ht
  have b2 := h u hu
  omega
open Classical in
/-- What Join makes of spans, none of which is empty. -/
noncomputable def Jn (l : GS S_Span) : GS S_Span := if l.l.length ≤ 1073741824 ∧ Bd l.l then (if l.l.length < 2 then l else GS.some (can gcmp l.l)) else GS.nil
theorem Jn_len (l : GS S_Span) : (Jn l).l.length ≤ l.l.length := by
  unfold Jn
  split
  · split
    · exact Nat.le_refl _
    · exact can_len l.l
  · simp [GS.nil]
theorem Jn_l {l : GS S_Span} (h1 : l.l.length ≤ 1073741824) (h2 : Bd l.l) : (Jn l).l = can gcmp l.l := by
  unfold Jn
  rw [if_pos ⟨h1, h2⟩]
  split
  · rename_i h
    cases e : l.l with
    | nil => rw [can_nil]
    | cons s r =>
      cases r with
      | nil => rw [can_one s (h2 s (by rw [e]; exact List.mem_cons_self)).2.1]
      | cons t r => rw [e] at h; simp only [List.length_cons] at h; omega
  · rfl
theorem rjoin_eq {l : GS S_Span} (h1 : l.l.length ≤ 1073741824) (h2 : Bd l.l) : r_Join Jn l = Jn l := by
  unfold r_Join
  by_cases h : l.l.length < 2
  · rw [decide_eq_true (show (((l.l.length : Nat) : Int) < 2) by omega), cond_true]
    unfold Jn; rw [if_pos ⟨h1, h2⟩, if_pos h]
  · rw [decide_eq_false (show ¬ (((l.l.length : Nat) : Int) < 2) by omega), cond_false]
    generalize hp : cutG l 0 (l.l.length / 2) = p
    generalize hq : cutG l (l.l.length / 2) l.l.length = q
    have sp : ∀ s ∈ p.l, s ∈ l.l := by rw [← hp]; exact cut_sub l _ _
    have sq : ∀ s ∈ q.l, s ∈ l.l := by rw [← hq]; exact cut_sub l _ _
    have lp : p.l.length ≤ 1073741824 := by rw [← hp, zd]; omega
    have lq : q.l.length ≤ 1073741824 := by rw [← hq, zd]; omega
    have bp : Bd p.l := fun s hs => h2 s (sp s hs)
    have bq : Bd q.l := fun s hs => h2 s (sq s hs)
    have ep := Jn_l lp bp
    have eq := Jn_l lq bq
    have hsplit : ∀ x, In l.l x ↔ In p.l x ∨ In q.l x := fun x => by
      rw [← In_append, ← hp, ← hq]
      unfold cutG
      rw [GS.some_l, GS.some_l, List.drop_zero, List.take_length, List.take_append_drop]
    have rp := can_rg gcmp_lo (l := p.l) fun s hs => (bp s hs).2.1
    have rq := can_rg gcmp_lo (l := q.l) fun s hs => (bq s hs).2.1
    have rl := can_rg gcmp_lo (l := l.l) fun s hs => (h2 s hs).2.1
    have jp := Jn_len p
    have jq := Jn_len q
    have hm : Rg (In l.l) (jnL (mrg (Jn p).l (Jn q).l)) := by
      rw [ep, eq]
      refine (jnL_rg (fun s hs => ?_) (mrg_srt _ _ (cn_srt rp.1) (cn_srt rq.1))).congr fun x => ?_
      · rcases List.mem_append.1 ((mrg_perm _ _).mem_iff.1 hs) with k | k
        · exact cn_mem rp.1 k
        · exact cn_mem rq.1 k
      · rw [In_perm (mrg_perm _ _), In_append, rp.2, rq.2, hsplit]
    have hcan := hm.unique rl
    have hne : mrg (Jn p).l (Jn q).l ≠ [] := fun e => by
      rw [e] at hm
      cases el : l.l with
      | nil => rw [el] at h; simp at h
      | cons s r =>
        have hs := (h2 s (by rw [el]; exact List.mem_cons_self)).2.1
        exact In_nil ((hm.2 s.lo).2 ⟨s, by rw [el]; exact List.mem_cons_self, Int.le_refl _, hs⟩)
    rcases join8 (p := Jn p) (q := Jn q) (by omega) (by omega) (by rw [ep]; exact can_bd bp) (by rw [eq]; exact can_bd bq) with ⟨e, _⟩ | ⟨i', k', e⟩
    · exact absurd e hne
    · rw [e]
      dsimp only
      rw [hcan]
      unfold Jn; rw [if_pos ⟨h1, h2⟩, if_neg h]
end Go.VS

/-
  Ranges: the reference's Join of any spans. (A text of this claim's own; nothing of it is trusted.)
-/
namespace Go.VS
open Go
set_option maxHeartbeats 0
theorem r_Join_len {J : GS S_Span → GS S_Span} {l : GS S_Span} (hl : l.l.length ≤ 1073741824) (hJ : ∀ x : GS S_Span, (J x).l.length ≤ x.l.length) : (r_Join J l).l.length ≤ l.l.length := by
  unfold r_Join
  by_cases h : l.l.length < 2
  · rw [decide_eq_true (show (((l.l.length : Nat) : Int) < 2) by omega), cond_true]; exact Nat.le_refl _
  · rw [decide_eq_false (show ¬ (((l.l.length : Nat) : Int) < 2) by omega), cond_false]
    have j1 := hJ (cutG l 0 (l.l.length / 2))
    have j2 := hJ (cutG l (l.l.length / 2) l.l.length)
    rw [zd] at j1 j2
    generalize J (cutG l 0 (l.l.length / 2)) = p at *
    generalize J (cutG l (l.l.length / 2) l.l.length) = q at *
    have ne := r_Join_ne p q (by omega) (by omega)
    have k := ivt_r_Join_8 p q _ ne (by omega) (by omega)
    cases hr : r_Join_8 p q (p.l.length + q.l.length + 1) with
    | x0 v i k' =>
      rw [hr] at k
      obtain ⟨k1, k2, k3⟩ := k
      simp only [GS.some_l]
      omega
    | x1 => simp [GS.nil]
    | out => exact absurd hr ne
/-- Join, worked out. -/
def JJN : Nat → GS S_Span → GS S_Span
  | 0, _ => GS.nil
  | n + 1, l => if l.l.length ≤ 1073741824 then r_Join (JJN n) l else GS.nil
theorem JJN_len : ∀ (n : Nat) (l : GS S_Span), (JJN n l).l.length ≤ l.l.length
  | 0, l => by simp [JJN, GS.nil]
  | n + 1, l => by
    unfold JJN
    split
    · rename_i h; exact r_Join_len h (JJN_len n)
    · simp [GS.nil]
def JJ (l : GS S_Span) : GS S_Span := JJN (l.l.length + 1) l
theorem JJ_len (l : GS S_Span) : (JJ l).l.length ≤ l.l.length := JJN_len _ l
theorem T_JJN : ∀ (n : Nat) (l : GS S_Span), l.l.length ≤ n → l.l.length ≤ 1073741824 → (lim cfg).pure 75 [GS.D S_Span.D 2 l] = some (GS.D S_Span.D 2 (JJN (n + 1) l)) := by
  intro n
  induction n with
  | zero =>
    intro l hn h1
    have e : JJN (0 + 1) l = r_Join (JJN 0) l := by unfold JJN; rw [if_pos h1]
    rw [e]
    exact T_r_Join (JJN 0) l h1 (fun x hx _ => by omega) (JJN_len 0)
  | succ n ih =>
    intro l hn h1
    have e : JJN (n + 1 + 1) l = r_Join (JJN (n + 1)) l := by unfold JJN; rw [if_pos h1]
    rw [e]
    exact T_r_Join (JJN (n + 1)) l h1 (fun x hx _ => ih x (by omega) (by omega)) (JJN_len (n + 1))
theorem T_JJ (l : GS S_Span) (h1 : l.l.length ≤ 1073741824) : (lim cfg).pure 75 [GS.D S_Span.D 2 l] = some (GS.D S_Span.D 2 (JJ l)) := T_JJN _ l (Nat.le_refl _) h1
theorem JJN_eq : ∀ (n : Nat) (l : GS S_Span), l.l.length ≤ n → l.l.length ≤ 1073741824 → Bd l.l → JJN (n + 1) l = Jn l := by
  intro n
  induction n with
  | zero =>
    intro l hn h1 h2
    unfold JJN
    rw [if_pos h1, ← rjoin_eq h1 h2]
    unfold r_Join
    have h : decide (((l.l.length : Nat) : Int) < 2) = true := decide_eq_true (by omega)
    rw [h]; rfl
  | succ n ih =>
    intro l hn h1 h2
    have e : JJN (n + 1 + 1) l = r_Join (JJN (n + 1)) l := by unfold JJN; rw [if_pos h1]
    rw [e, ← rjoin_eq h1 h2]
    unfold r_Join
    by_cases h : l.l.length < 2
    · rw [decide_eq_true (show (((l.l.length : Nat) : Int) < 2) by omega)]; rfl
    · have sp : ∀ a b, Bd (cutG l a b).l := fun a b s hs => h2 s (cut_sub l _ _ s hs)
      rw [ih (cutG l 0 (l.l.length / 2)) (by rw [zd]; omega) (by rw [zd]; omega) (sp _ _), ih (cutG l (l.l.length / 2) l.l.length) (by rw [zd]; omega) (by rw [zd]; omega) (sp _ _)]
/-- Join of spans none of which is empty: the range of what is in them. -/
theorem JJ_l {l : GS S_Span} (h1 : l.l.length ≤ 1073741824) (h2 : Bd l.l) : (JJ l).l = can gcmp l.l := by
  unfold JJ
  rw [JJN_eq _ l (Nat.le_refl _) h1 h2, Jn_l h1 h2]
end Go.VS

namespace Go.VS
open Go Go.Proofs
set_option maxHeartbeats 0
set_option linter.unusedSimpArgs false
set_option linter.unusedVariables false
def r_Fit (l : GS S_Span) : (GS S_Span) × Int :=
  bif decide (((l.l.length : Nat) : Int) > 64) then
    (GS.nil, 2)
  else
    bif decide (((l.l.length : Nat) : Int) > 0) then
      bif decide (((GS.at l 0).lo) < (-1099511627776)) then
        (GS.nil, 2)
      else
        bif decide (((GS.at l (w64 (((l.l.length : Nat) : Int) - 1))).hi) > 1099511627776) then
          (GS.nil, 2)
        else
          (l, 0)
    else
      (l, 0)

def r_Fit_o1 (l : GS S_Span) : List Ora := [.rw 6 (I ((l.l.length : Nat) : Int)), .dec false, .dec true, .el (.agg [I ((GS.at l 0).lo), I ((GS.at l 0).hi)]), .dec false, .el (.agg [I ((GS.at l (w64 (((l.l.length : Nat) : Int) - 1))).lo), I ((GS.at l (w64 (((l.l.length : Nat) : Int) - 1))).hi)])]

theorem T_r_Fit (l : GS S_Span) : (lim cfg).pure 74 [GS.D S_Span.D 2 l] = some (.tup [GS.D S_Span.D 2 ((r_Fit l).1), I ((r_Fit l).2)]) := by
  unfold r_Fit
  cases h1 : decide (((l.l.length : Nat) : Int) > 64) with
  | true =>
    have g1 := of_decide_eq_true h1
    exact ze [.rw 6 (I ((l.l.length : Nat) : Int)), .dec true] (And.intro h1 (And.intro (zb S_Span.D l) trivial)) (by kernel_rfl)
  | false =>
    have g1 := of_decide_eq_false h1
    cases h2 : decide (((l.l.length : Nat) : Int) > 0) with
    | true =>
      have g2 := of_decide_eq_true h2
      have p1 := (el_in (s := l) (f := S_Span.D) (k := 2) (i := 0) (by omega) (by omega))
      cases h3 : decide (((GS.at l 0).lo) < (-1099511627776)) with
      | true =>
        have g3 := of_decide_eq_true h3
        exact ze [.rw 6 (I ((l.l.length : Nat) : Int)), .dec false, .dec true, .el (.agg [I ((GS.at l 0).lo), I ((GS.at l 0).hi)]), .dec true] (And.intro h3 (And.intro p1 (And.intro h2 (And.intro h1 (And.intro (zb S_Span.D l) trivial))))) (by kernel_rfl)
      | false =>
        have g3 := of_decide_eq_false h3
        have p2 := (el_in (s := l) (f := S_Span.D) (k := 2) (i := w64 (((l.l.length : Nat) : Int) - 1)) (by simp only [List.length_append, List.length_cons, List.length_nil, za] at * <;> omega) (by simp only [List.length_append, List.length_cons, List.length_nil, za] at * <;> omega))
        cases h4 : decide (((GS.at l (w64 (((l.l.length : Nat) : Int) - 1))).hi) > 1099511627776) with
        | true =>
          have g4 := of_decide_eq_true h4
          exact ze ((r_Fit_o1 l) ++ [.dec true]) (And.intro h4 (And.intro p2 (And.intro h3 (And.intro p1 (And.intro h2 (And.intro h1 (And.intro (zb S_Span.D l) trivial))))))) (by kernel_rfl)
        | false =>
          have g4 := of_decide_eq_false h4
          exact ze ((r_Fit_o1 l) ++ [.dec false]) (And.intro h4 (And.intro p2 (And.intro h3 (And.intro p1 (And.intro h2 (And.intro h1 (And.intro (zb S_Span.D l) trivial))))))) (by kernel_rfl)
    | false =>
      have g2 := of_decide_eq_false h2
      exact ze [.rw 6 (I ((l.l.length : Nat) : Int)), .dec false, .dec false] (And.intro h2 (And.intro h1 (And.intro (zb S_Span.D l) trivial))) (by kernel_rfl)

noncomputable def lp49_4 : Code := subC [1, 1, 0, 1, 0, 0] (bodyC Tryz.f49)

inductive LR_r_Has_4 where
  | x0
  | x1 (i4 : Nat) (x4 : S_Span)
instance : Inhabited LR_r_Has_4 := ⟨.x0⟩
def r_Has_4 (n : Int) : List S_Span → Nat → LR_r_Has_4
  | [], i4 => .x0
  | x4 :: zR, i4 =>
    bif decide (x4.lo ≤ n) then
      bif decide (n ≤ x4.hi) then
        .x1 i4 x4
      else
        r_Has_4 n zR (i4 + 1)
    else
      r_Has_4 n zR (i4 + 1)
def lr_r_Has_4 (r : GS S_Span) (n : Int) : LR_r_Has_4 → Exit × St
  | .x0 => ((.exit 0), ⟨32, [(13, B false), (12, I ((r.l.length : Nat) : Int)), (11, .sl r.nl (r.l.map S_Span.D) (zsl r.nl 2) none), (10, I ((r.l.length : Nat) : Int)), (0, .sl r.nl (r.l.map S_Span.D) (zsl r.nl 2) none), (1, I n), (6, I ((r.l.length : Nat) : Int))], [], 0, 0⟩)
  | .x1 i4 x4 => (.ret, ⟨32, [(5, I 0), (4, B true), (31, B true), (30, B true), (29, I x4.hi), (28, .ptr (I x4.hi)), (27, .ptr (.agg [I x4.lo, I x4.hi])), (26, I ((i4 : Nat) : Int)), (25, .sl r.nl (r.l.map S_Span.D) (zsl r.nl 2) none), (24, I n), (23, B true), (22, B true), (21, I n), (20, I x4.lo), (19, .ptr (I x4.lo)), (18, .ptr (.agg [I x4.lo, I x4.hi])), (17, I ((i4 : Nat) : Int)), (16, .sl r.nl (r.l.map S_Span.D) (zsl r.nl 2) none), (13, B true), (12, I ((r.l.length : Nat) : Int)), (11, .sl r.nl (r.l.map S_Span.D) (zsl r.nl 2) none), (10, I ((i4 : Nat) : Int)), (0, .sl r.nl (r.l.map S_Span.D) (zsl r.nl 2) none), (1, I n), (6, I ((i4 : Nat) : Int))], [], 0, 0⟩)
def r_Has_4_l_o1 (r : GS S_Span) (x4 : S_Span) : List Ora := [.rw 12 (I ((r.l.length : Nat) : Int)), .dec true, .el (.agg [I x4.lo, I x4.hi]), .dec true, .el (.agg [I x4.lo, I x4.hi])]
theorem lp_r_Has_4 (r : GS S_Span) (n : Int) : ∀ (zR : List S_Span) (i4 : Nat) (hd4 : r.l.drop i4 = zR) (hi4 : i4 ≤ r.l.length) (hL4 : r.l.length ≤ 9223372036854775807), (lim cfg).loop 49 lp49_4 ⟨32, [(0, .sl r.nl (r.l.map S_Span.D) (zsl r.nl 2) none), (1, I n), (6, I ((i4 : Nat) : Int))], [], 0, 0⟩ = some (lr_r_Has_4 r n (r_Has_4 n zR i4)) := by
  intro zR
  induction zR with
  | nil =>
    intro i4 hd4 hi4 hL4
    unfold r_Has_4
    obtain rfl : i4 = r.l.length := nil_eq hd4 hi4
    exact zI [.rw 12 (I ((r.l.length : Nat) : Int)), .dec false] (And.intro (lt_no hd4) (And.intro (zb S_Span.D r) trivial)) (by kernel_rfl)
  | cons x4 zR ih =>
    intro i4 hd4 hi4 hL4
    have hlt4 := zk hd4
    unfold r_Has_4
    have p1 := (el_at (s := r) (f := S_Span.D) (k := 2) hd4)
    cases h4 : decide (x4.lo ≤ n) with
    | true =>
      have g4 := of_decide_eq_true h4
      have p2 := (el_at (s := r) (f := S_Span.D) (k := 2) hd4)
      cases h5 : decide (n ≤ x4.hi) with
      | true =>
        have g5 := of_decide_eq_true h5
        exact zI ((r_Has_4_l_o1 r x4) ++ [.dec true]) (And.intro h5 (And.intro p2 (And.intro h4 (And.intro p1 (And.intro (lt_at hd4) (And.intro (zb S_Span.D r) trivial)))))) (by kernel_rfl)
      | false =>
        have g5 := of_decide_eq_false h5
        exact po_turn ((r_Has_4_l_o1 r x4) ++ [.dec false, .rw 15 (I ((i4 + 1 : Nat) : Int))]) (And.intro (inc_rw (i := i4) (by have := zk hd4; omega)) (And.intro h5 (And.intro p2 (And.intro h4 (And.intro p1 (And.intro (lt_at hd4) (And.intro (zb S_Span.D r) trivial))))))) (ih (i4 + 1) (zp hd4) (zk hd4) (by omega)) (by kernel_rfl)
    | false =>
      have g4 := of_decide_eq_false h4
      exact po_turn [.rw 12 (I ((r.l.length : Nat) : Int)), .dec true, .el (.agg [I x4.lo, I x4.hi]), .dec false, .rw 15 (I ((i4 + 1 : Nat) : Int))] (And.intro (inc_rw (i := i4) (by have := zk hd4; omega)) (And.intro h4 (And.intro p1 (And.intro (lt_at hd4) (And.intro (zb S_Span.D r) trivial))))) (ih (i4 + 1) (zp hd4) (zk hd4) (by omega)) (by kernel_rfl)

def r_Has (r : GS S_Span) (n : Int) : Bool × Int :=
  bif (zF r) then
    match r_Has_4 n r.l 0 with
    | .x0 =>
      (false, 0)
    | .x1 i4 x4 =>
      (true, 0)
  else
    (false, 20)

def sd20279 (r : GS S_Span) (n : Int) : St := ⟨32, [(13, B false), (12, I ((r.l.length : Nat) : Int)), (11, .sl r.nl (r.l.map S_Span.D) (zsl r.nl 2) none), (10, I ((r.l.length : Nat) : Int)), (0, .sl r.nl (r.l.map S_Span.D) (zsl r.nl 2) none), (1, I n), (6, I ((r.l.length : Nat) : Int))], [], 0, 0⟩

def sd20280 (r : GS S_Span) (n : Int) (i4 : Nat) (x4 : S_Span) : St := ⟨32, [(5, I 0), (4, B true), (31, B true), (30, B true), (29, I x4.hi), (28, .ptr (I x4.hi)), (27, .ptr (.agg [I x4.lo, I x4.hi])), (26, I ((i4 : Nat) : Int)), (25, .sl r.nl (r.l.map S_Span.D) (zsl r.nl 2) none), (24, I n), (23, B true), (22, B true), (21, I n), (20, I x4.lo), (19, .ptr (I x4.lo)), (18, .ptr (.agg [I x4.lo, I x4.hi])), (17, I ((i4 : Nat) : Int)), (16, .sl r.nl (r.l.map S_Span.D) (zsl r.nl 2) none), (13, B true), (12, I ((r.l.length : Nat) : Int)), (11, .sl r.nl (r.l.map S_Span.D) (zsl r.nl 2) none), (10, I ((i4 : Nat) : Int)), (0, .sl r.nl (r.l.map S_Span.D) (zsl r.nl 2) none), (1, I n), (6, I ((i4 : Nat) : Int))], [], 0, 0⟩

theorem T_r_Has (r : GS S_Span) (n : Int) (hL_r : r.l.length ≤ 9223372036854775807) : (lim cfg).pure 49 [GS.D S_Span.D 2 r, I n] = some (.tup [B ((r_Has r n).1), I ((r_Has r n).2)]) := by
  unfold r_Has
  cases h1 : (zF r) with
  | true =>
    cases h6 : r_Has_4 n r.l 0 with
    | x0 =>
      try dsimp only
      exact ze [.pure (B (zF r)), .dec true, .loop (.exit 0) (sd20279 r n)] (And.intro (po_lr (q := lr_r_Has_4 r n) (lp_r_Has_4 r n r.l 0 (List.drop_zero) (Nat.zero_le _) (by omega)) h6) (And.intro h1 (And.intro (T_r_Valid r (by omega)) trivial))) (by kernel_rfl)
    | x1 i4 x4 =>
      try dsimp only
      exact ze [.pure (B (zF r)), .dec true, .loop .ret (sd20280 r n i4 x4)] (And.intro (po_lr (q := lr_r_Has_4 r n) (lp_r_Has_4 r n r.l 0 (List.drop_zero) (Nat.zero_le _) (by omega)) h6) (And.intro h1 (And.intro (T_r_Valid r (by omega)) trivial))) (by kernel_rfl)
  | false =>
    exact ze [.pure (B (zF r)), .dec false] (And.intro h1 (And.intro (T_r_Valid r (by omega)) trivial)) (by kernel_rfl)

noncomputable def lp51_5 : Code := subC [1, 1, 1, 0, 1, 0, 0] (bodyC Tryz.f51)

inductive LR_r_Size_5 where
  | x0 (v5_0 : Int)
instance : Inhabited LR_r_Size_5 := ⟨.x0 default⟩
def r_Size_5 : List S_Span → Int → LR_r_Size_5
  | [], v5_0 => .x0 v5_0
  | x5 :: rest5, v5_0 =>
    r_Size_5 rest5 (w64 (v5_0 + (w64 ((w64 (x5.hi - x5.lo)) + 1))))
def lr_r_Size_5 (r : GS S_Span) : LR_r_Size_5 → Exit × St
  | .x0 v5_0 => ((.exit 0), ⟨30, [(12, B false), (11, I ((r.l.length : Nat) : Int)), (10, .sl r.nl (r.l.map S_Span.D) (zsl r.nl 2) none), (9, I ((r.l.length : Nat) : Int)), (0, .sl r.nl (r.l.map S_Span.D) (zsl r.nl 2) none), (4, I v5_0), (5, I ((r.l.length : Nat) : Int))], [], 0, 0⟩)
theorem lp_r_Size_5 (r : GS S_Span) : ∀ (rest5 : List S_Span) (i5 : Nat) (v5_0 : Int) (hd5 : r.l.drop i5 = rest5) (hi5 : i5 ≤ r.l.length) (hL5 : r.l.length ≤ 9223372036854775807), (lim cfg).loop 51 lp51_5 ⟨30, [(0, .sl r.nl (r.l.map S_Span.D) (zsl r.nl 2) none), (4, I v5_0), (5, I ((i5 : Nat) : Int))], [], 0, 0⟩ = some (lr_r_Size_5 r (r_Size_5 rest5 v5_0)) := by
  intro rest5
  induction rest5 with
  | nil =>
    intro i5 v5_0 hd5 hi5 hL5
    unfold r_Size_5
    obtain rfl : i5 = r.l.length := nil_eq hd5 hi5
    exact zI [.rw 11 (I ((r.l.length : Nat) : Int)), .dec false] (And.intro (lt_no hd5) (And.intro (zb S_Span.D r) trivial)) (by kernel_rfl)
  | cons x5 rest5 ih =>
    intro i5 v5_0 hd5 hi5 hL5
    have hlt5 := zk hd5
    unfold r_Size_5
    exact po_turn [.rw 11 (I ((r.l.length : Nat) : Int)), .dec true, .el (.agg [I x5.lo, I x5.hi]), .el (.agg [I x5.lo, I x5.hi]), .rw 14 (I ((i5 + 1 : Nat) : Int))] (And.intro (inc_rw (i := i5) (by have := zk hd5; omega)) (And.intro (el_at (s := r) (f := S_Span.D) (k := 2) hd5) (And.intro (el_at (s := r) (f := S_Span.D) (k := 2) hd5) (And.intro (lt_at hd5) (And.intro (zb S_Span.D r) trivial))))) (ih (i5 + 1) (w64 (v5_0 + (w64 ((w64 (x5.hi - x5.lo)) + 1)))) (zp hd5) (zk hd5) (by omega)) (by kernel_rfl)

def r_Size (r : GS S_Span) : Int × Int :=
  bif (zF r) then
    match r_Size_5 r.l 0 with
    | .x0 v5_0 =>
      (v5_0, 0)
  else
    (0, 20)

def sd20281 (r : GS S_Span) (v5_0 : Int) : St := ⟨30, [(12, B false), (11, I ((r.l.length : Nat) : Int)), (10, .sl r.nl (r.l.map S_Span.D) (zsl r.nl 2) none), (9, I ((r.l.length : Nat) : Int)), (0, .sl r.nl (r.l.map S_Span.D) (zsl r.nl 2) none), (4, I v5_0), (5, I ((r.l.length : Nat) : Int))], [], 0, 0⟩

theorem T_r_Size (r : GS S_Span) (hL_r : r.l.length ≤ 9223372036854775807) : (lim cfg).pure 51 [GS.D S_Span.D 2 r] = some (.tup [I ((r_Size r).1), I ((r_Size r).2)]) := by
  unfold r_Size
  cases h1 : (zF r) with
  | true =>
    cases h2 : r_Size_5 r.l 0 with
    | x0 v5_0 =>
      try dsimp only
      exact ze [.pure (B (zF r)), .dec true, .loop (.exit 0) (sd20281 r v5_0)] (And.intro (po_lr (q := lr_r_Size_5 r) (lp_r_Size_5 r r.l 0 0 (List.drop_zero) (Nat.zero_le _) (by omega)) h2) (And.intro h1 (And.intro (T_r_Valid r (by omega)) trivial))) (by kernel_rfl)
  | false =>
    exact ze [.pure (B (zF r)), .dec false] (And.intro h1 (And.intro (T_r_Valid r (by omega)) trivial)) (by kernel_rfl)

def r_Hull (r : GS S_Span) : S_Span × Int :=
  bif (zF r) then
    bif (((r.l.length : Nat) : Int) == 0) then
      ((⟨0, 0⟩ : S_Span), 4)
    else
      ((⟨(GS.at r 0).lo, (GS.at r (w64 (((r.l.length : Nat) : Int) - 1))).hi⟩ : S_Span), 0)
  else
    ((⟨0, 0⟩ : S_Span), 20)

theorem T_r_Hull (r : GS S_Span) (hL_r : r.l.length ≤ 9223372036854775807) : (lim cfg).pure 52 [GS.D S_Span.D 2 r] = some (.tup [S_Span.D ((r_Hull r).1), I ((r_Hull r).2)]) := by
  unfold r_Hull
  cases h1 : (zF r) with
  | true =>
    cases h2 : (((r.l.length : Nat) : Int) == 0) with
    | true =>
      have g2 := eq_of_beq h2
      exact ze [.pure (B (zF r)), .dec true, .rw 9 (I ((r.l.length : Nat) : Int)), .dec true] (And.intro h2 (And.intro (zb S_Span.D r) (And.intro h1 (And.intro (T_r_Valid r (by omega)) trivial)))) (by kernel_rfl)
    | false =>
      have g2 := ne_of_beq_false h2
      exact ze [.pure (B (zF r)), .dec true, .rw 9 (I ((r.l.length : Nat) : Int)), .dec false, .el (.agg [I ((GS.at r 0).lo), I ((GS.at r 0).hi)]), .rw 18 (I ((r.l.length : Nat) : Int)), .el (.agg [I ((GS.at r (w64 (((r.l.length : Nat) : Int) - 1))).lo), I ((GS.at r (w64 (((r.l.length : Nat) : Int) - 1))).hi)])] (And.intro (el_in (s := r) (f := S_Span.D) (k := 2) (i := w64 (((r.l.length : Nat) : Int) - 1)) (by simp only [List.length_append, List.length_cons, List.length_nil, za] at * <;> omega) (by simp only [List.length_append, List.length_cons, List.length_nil, za] at * <;> omega)) (And.intro (zb S_Span.D r) (And.intro (el_in (s := r) (f := S_Span.D) (k := 2) (i := 0) (by omega) (by omega)) (And.intro h2 (And.intro (zb S_Span.D r) (And.intro h1 (And.intro (T_r_Valid r (by omega)) trivial))))))) (by kernel_rfl)
  | false =>
    exact ze [.pure (B (zF r)), .dec false] (And.intro h1 (And.intro (T_r_Valid r (by omega)) trivial)) (by kernel_rfl)

noncomputable def lp53_4 : Code := subC [1, 1, 0, 1, 0, 0] (bodyC Tryz.f53)

inductive LR_r_Next_4 where
  | x0
  | x1 (i4 : Nat) (x4 : S_Span)
instance : Inhabited LR_r_Next_4 := ⟨.x0⟩
def r_Next_4 (n : Int) : List S_Span → Nat → LR_r_Next_4
  | [], i4 => .x0
  | x4 :: zR, i4 =>
    bif decide (n < x4.hi) then
      .x1 i4 x4
    else
      r_Next_4 n zR (i4 + 1)
def lr_r_Next_4 (r : GS S_Span) (n : Int) : LR_r_Next_4 → Exit × St
  | .x0 => ((.exit 0), ⟨32, [(14, B false), (13, I ((r.l.length : Nat) : Int)), (12, .sl r.nl (r.l.map S_Span.D) (zsl r.nl 2) none), (11, I ((r.l.length : Nat) : Int)), (0, .sl r.nl (r.l.map S_Span.D) (zsl r.nl 2) none), (1, I n), (7, I ((r.l.length : Nat) : Int))], [], 0, 0⟩)
  | .x1 i4 x4 => (.ret, ⟨32, [(6, I 0), (5, B true), (4, I (zC x4.lo (w64 (n + 1)))), (31, I (zC x4.lo (w64 (n + 1)))), (30, I (w64 (n + 1))), (29, I n), (28, I x4.lo), (27, .ptr (I x4.lo)), (26, .ptr (.agg [I x4.lo, I x4.hi])), (25, I ((i4 : Nat) : Int)), (24, .sl r.nl (r.l.map S_Span.D) (zsl r.nl 2) none), (23, B true), (22, I x4.hi), (21, .ptr (I x4.hi)), (20, .ptr (.agg [I x4.lo, I x4.hi])), (19, I ((i4 : Nat) : Int)), (18, .sl r.nl (r.l.map S_Span.D) (zsl r.nl 2) none), (17, I n), (14, B true), (13, I ((r.l.length : Nat) : Int)), (12, .sl r.nl (r.l.map S_Span.D) (zsl r.nl 2) none), (11, I ((i4 : Nat) : Int)), (0, .sl r.nl (r.l.map S_Span.D) (zsl r.nl 2) none), (1, I n), (7, I ((i4 : Nat) : Int))], [], 0, 0⟩)
theorem lp_r_Next_4 (r : GS S_Span) (n : Int) : ∀ (zR : List S_Span) (i4 : Nat) (hd4 : r.l.drop i4 = zR) (hi4 : i4 ≤ r.l.length) (hL4 : r.l.length ≤ 9223372036854775807), (lim cfg).loop 53 lp53_4 ⟨32, [(0, .sl r.nl (r.l.map S_Span.D) (zsl r.nl 2) none), (1, I n), (7, I ((i4 : Nat) : Int))], [], 0, 0⟩ = some (lr_r_Next_4 r n (r_Next_4 n zR i4)) := by
  intro zR
  induction zR with
  | nil =>
    intro i4 hd4 hi4 hL4
    unfold r_Next_4
    obtain rfl : i4 = r.l.length := nil_eq hd4 hi4
    exact zI [.rw 13 (I ((r.l.length : Nat) : Int)), .dec false] (And.intro (lt_no hd4) (And.intro (zb S_Span.D r) trivial)) (by kernel_rfl)
  | cons x4 zR ih =>
    intro i4 hd4 hi4 hL4
    have hlt4 := zk hd4
    unfold r_Next_4
    cases h3 : decide (n < x4.hi) with
    | true =>
      have g3 := of_decide_eq_true h3
      exact zI [.rw 13 (I ((r.l.length : Nat) : Int)), .dec true, .el (.agg [I x4.lo, I x4.hi]), .dec true, .el (.agg [I x4.lo, I x4.hi])] (And.intro (el_at (s := r) (f := S_Span.D) (k := 2) hd4) (And.intro h3 (And.intro (el_at (s := r) (f := S_Span.D) (k := 2) hd4) (And.intro (lt_at hd4) (And.intro (zb S_Span.D r) trivial))))) (by kernel_rfl)
    | false =>
      have g3 := of_decide_eq_false h3
      exact po_turn [.rw 13 (I ((r.l.length : Nat) : Int)), .dec true, .el (.agg [I x4.lo, I x4.hi]), .dec false, .rw 16 (I ((i4 + 1 : Nat) : Int))] (And.intro (inc_rw (i := i4) (by have := zk hd4; omega)) (And.intro h3 (And.intro (el_at (s := r) (f := S_Span.D) (k := 2) hd4) (And.intro (lt_at hd4) (And.intro (zb S_Span.D r) trivial))))) (ih (i4 + 1) (zp hd4) (zk hd4) (by omega)) (by kernel_rfl)

def r_Next (r : GS S_Span) (n : Int) : Int × Bool × Int :=
  bif (zF r) then
    match r_Next_4 n r.l 0 with
    | .x0 =>
      (0, false, 0)
    | .x1 i4 x4 =>
      (zC x4.lo (w64 (n + 1)), true, 0)
  else
    (0, false, 20)

def sd20282 (r : GS S_Span) (n : Int) : St := ⟨32, [(14, B false), (13, I ((r.l.length : Nat) : Int)), (12, .sl r.nl (r.l.map S_Span.D) (zsl r.nl 2) none), (11, I ((r.l.length : Nat) : Int)), (0, .sl r.nl (r.l.map S_Span.D) (zsl r.nl 2) none), (1, I n), (7, I ((r.l.length : Nat) : Int))], [], 0, 0⟩

def sd20283 (r : GS S_Span) (n : Int) (i4 : Nat) (x4 : S_Span) : St := ⟨32, [(6, I 0), (5, B true), (4, I (zC x4.lo (w64 (n + 1)))), (31, I (zC x4.lo (w64 (n + 1)))), (30, I (w64 (n + 1))), (29, I n), (28, I x4.lo), (27, .ptr (I x4.lo)), (26, .ptr (.agg [I x4.lo, I x4.hi])), (25, I ((i4 : Nat) : Int)), (24, .sl r.nl (r.l.map S_Span.D) (zsl r.nl 2) none), (23, B true), (22, I x4.hi), (21, .ptr (I x4.hi)), (20, .ptr (.agg [I x4.lo, I x4.hi])), (19, I ((i4 : Nat) : Int)), (18, .sl r.nl (r.l.map S_Span.D) (zsl r.nl 2) none), (17, I n), (14, B true), (13, I ((r.l.length : Nat) : Int)), (12, .sl r.nl (r.l.map S_Span.D) (zsl r.nl 2) none), (11, I ((i4 : Nat) : Int)), (0, .sl r.nl (r.l.map S_Span.D) (zsl r.nl 2) none), (1, I n), (7, I ((i4 : Nat) : Int))], [], 0, 0⟩

theorem T_r_Next (r : GS S_Span) (n : Int) (hL_r : r.l.length ≤ 9223372036854775807) : (lim cfg).pure 53 [GS.D S_Span.D 2 r, I n] = some (.tup [I ((r_Next r n).1), B ((r_Next r n).2.1), I ((r_Next r n).2.2)]) := by
  unfold r_Next
  cases h1 : (zF r) with
  | true =>
    cases h4 : r_Next_4 n r.l 0 with
    | x0 =>
      try dsimp only
      exact ze [.pure (B (zF r)), .dec true, .loop (.exit 0) (sd20282 r n)] (And.intro (po_lr (q := lr_r_Next_4 r n) (lp_r_Next_4 r n r.l 0 (List.drop_zero) (Nat.zero_le _) (by omega)) h4) (And.intro h1 (And.intro (T_r_Valid r (by omega)) trivial))) (by kernel_rfl)
    | x1 i4 x4 =>
      try dsimp only
      exact ze [.pure (B (zF r)), .dec true, .loop .ret (sd20283 r n i4 x4)] (And.intro (po_lr (q := lr_r_Next_4 r n) (lp_r_Next_4 r n r.l 0 (List.drop_zero) (Nat.zero_le _) (by omega)) h4) (And.intro h1 (And.intro (T_r_Valid r (by omega)) trivial))) (by kernel_rfl)
  | false =>
    exact ze [.pure (B (zF r)), .dec false] (And.intro h1 (And.intro (T_r_Valid r (by omega)) trivial)) (by kernel_rfl)

noncomputable def lp54_8 : Code := subC [1, 1, 1, 1, 1, 0, 1, 0, 0] (bodyC Tryz.f54)

inductive LR_r_Near_8 where
  | x0 (i8 : Nat) (v8_0 : Int)
instance : Inhabited LR_r_Near_8 := ⟨.x0 default default⟩
def r_Near_8 (r : GS S_Span) (zO : Int) : Nat → Nat → Int → LR_r_Near_8
  | 0, i8, v8_0 => .x0 i8 v8_0
  | zT + 1, i8, v8_0 =>
    bif decide ((zC (w64 (zO - (imin (zC zO ((GS.at r ((i8 : Nat) : Int)).lo)) ((GS.at r ((i8 : Nat) : Int)).hi)))) (w64 ((imin (zC zO ((GS.at r ((i8 : Nat) : Int)).lo)) ((GS.at r ((i8 : Nat) : Int)).hi)) - zO))) < (zC (w64 (zO - v8_0)) (w64 (v8_0 - zO)))) then
      r_Near_8 r zO zT (i8 + 1) (imin (zC zO ((GS.at r ((i8 : Nat) : Int)).lo)) ((GS.at r ((i8 : Nat) : Int)).hi))
    else
      r_Near_8 r zO zT (i8 + 1) v8_0
def lr_r_Near_8 (r : GS S_Span) (zO : Int) : LR_r_Near_8 → Exit × St
  | .x0 i8 v8_0 => ((.exit 0), ⟨65, [(32, B false), (31, I ((r.l.length : Nat) : Int)), (30, .sl r.nl (r.l.map S_Span.D) (zsl r.nl 2) none), (29, I ((i8 : Nat) : Int)), (0, .sl r.nl (r.l.map S_Span.D) (zsl r.nl 2) none), (1, I zO), (6, I v8_0), (7, I ((i8 : Nat) : Int))], [], 0, 0⟩)
theorem lp_r_Near_8 (r : GS S_Span) (zO : Int) : ∀ (zT : Nat) (i8 : Nat) (v8_0 : Int) (hk8 : (((r.l.length : Nat) : Int) - ((i8 : Nat) : Int)).toNat = zT) (hN8 : ((r.l.length : Nat) : Int) ≤ 9223372036854775807), (lim cfg).loop 54 lp54_8 ⟨65, [(0, .sl r.nl (r.l.map S_Span.D) (zsl r.nl 2) none), (1, I zO), (6, I v8_0), (7, I ((i8 : Nat) : Int))], [], 0, 0⟩ = some (lr_r_Near_8 r zO (r_Near_8 r zO zT i8 v8_0)) := by
  intro zT
  induction zT with
  | zero =>
    intro i8 v8_0 hk8 hN8
    unfold r_Near_8
    exact zI [.rw 31 (I ((r.l.length : Nat) : Int)), .dec false] (And.intro (ct_no hk8) (And.intro (zb S_Span.D r) trivial)) (by kernel_rfl)
  | succ zT ih =>
    intro i8 v8_0 hk8 hN8
    have hlt8 := of_decide_eq_true (ct_at hk8)
    unfold r_Near_8
    cases h4 : decide ((zC (w64 (zO - (imin (zC zO ((GS.at r ((i8 : Nat) : Int)).lo)) ((GS.at r ((i8 : Nat) : Int)).hi)))) (w64 ((imin (zC zO ((GS.at r ((i8 : Nat) : Int)).lo)) ((GS.at r ((i8 : Nat) : Int)).hi)) - zO))) < (zC (w64 (zO - v8_0)) (w64 (v8_0 - zO)))) with
    | true =>
      have g4 := of_decide_eq_true h4
      exact po_turn [.rw 31 (I ((r.l.length : Nat) : Int)), .dec true, .el (.agg [I ((GS.at r ((i8 : Nat) : Int)).lo), I ((GS.at r ((i8 : Nat) : Int)).hi)]), .el (.agg [I ((GS.at r ((i8 : Nat) : Int)).lo), I ((GS.at r ((i8 : Nat) : Int)).hi)]), .dec true, .rw 34 (I ((i8 + 1 : Nat) : Int))] (And.intro (inc_rw (i := i8) (by omega)) (And.intro h4 (And.intro (el_in (s := r) (f := S_Span.D) (k := 2) (i := ((i8 : Nat) : Int)) (by omega) (by omega)) (And.intro (el_in (s := r) (f := S_Span.D) (k := 2) (i := ((i8 : Nat) : Int)) (by omega) (by omega)) (And.intro (ct_at hk8) (And.intro (zb S_Span.D r) trivial)))))) (ih (i8 + 1) (imin (zC zO ((GS.at r ((i8 : Nat) : Int)).lo)) ((GS.at r ((i8 : Nat) : Int)).hi)) (by omega) hN8) (by kernel_rfl)
    | false =>
      have g4 := of_decide_eq_false h4
      exact po_turn [.rw 31 (I ((r.l.length : Nat) : Int)), .dec true, .el (.agg [I ((GS.at r ((i8 : Nat) : Int)).lo), I ((GS.at r ((i8 : Nat) : Int)).hi)]), .el (.agg [I ((GS.at r ((i8 : Nat) : Int)).lo), I ((GS.at r ((i8 : Nat) : Int)).hi)]), .dec false, .rw 34 (I ((i8 + 1 : Nat) : Int))] (And.intro (inc_rw (i := i8) (by omega)) (And.intro h4 (And.intro (el_in (s := r) (f := S_Span.D) (k := 2) (i := ((i8 : Nat) : Int)) (by omega) (by omega)) (And.intro (el_in (s := r) (f := S_Span.D) (k := 2) (i := ((i8 : Nat) : Int)) (by omega) (by omega)) (And.intro (ct_at hk8) (And.intro (zb S_Span.D r) trivial)))))) (ih (i8 + 1) v8_0 (by omega) hN8) (by kernel_rfl)

def r_Near (r : GS S_Span) (n : Int) : Int × Int :=
  bif (zF r) then
    bif (((r.l.length : Nat) : Int) == 0) then
      (0, 4)
    else
      match r_Near_8 r (imin (zC n (-2199023255552)) 2199023255552) (((r.l.length : Nat) : Int) - 1).toNat 1 (imin (zC (imin (zC n (-2199023255552)) 2199023255552) ((GS.at r 0).lo)) ((GS.at r 0).hi)) with
      | .x0 i8 v8_0 =>
        (v8_0, 0)
  else
    (0, 20)

def sd20284 (r : GS S_Span) (n : Int) (i8 : Nat) (v8_0 : Int) : St := ⟨65, [(32, B false), (31, I ((r.l.length : Nat) : Int)), (30, .sl r.nl (r.l.map S_Span.D) (zsl r.nl 2) none), (29, I ((i8 : Nat) : Int)), (0, .sl r.nl (r.l.map S_Span.D) (zsl r.nl 2) none), (1, I (imin (zC n (-2199023255552)) 2199023255552)), (6, I v8_0), (7, I ((i8 : Nat) : Int))], [], 0, 0⟩

def r_Near_o1 (r : GS S_Span) (n : Int) (i8 : Nat) (v8_0 : Int) : List Ora := [.pure (B (zF r)), .dec true, .rw 13 (I ((r.l.length : Nat) : Int)), .dec false, .el (.agg [I ((GS.at r 0).lo), I ((GS.at r 0).hi)]), .el (.agg [I ((GS.at r 0).lo), I ((GS.at r 0).hi)]), .loop (.exit 0) (sd20284 r n i8 v8_0)]

theorem T_r_Near (r : GS S_Span) (n : Int) (hL_r : r.l.length ≤ 9223372036854775807) : (lim cfg).pure 54 [GS.D S_Span.D 2 r, I n] = some (.tup [I ((r_Near r n).1), I ((r_Near r n).2)]) := by
  unfold r_Near
  cases h1 : (zF r) with
  | true =>
    cases h2 : (((r.l.length : Nat) : Int) == 0) with
    | true =>
      have g2 := eq_of_beq h2
      exact ze [.pure (B (zF r)), .dec true, .rw 13 (I ((r.l.length : Nat) : Int)), .dec true] (And.intro h2 (And.intro (zb S_Span.D r) (And.intro h1 (And.intro (T_r_Valid r (by omega)) trivial)))) (by kernel_rfl)
    | false =>
      have g2 := ne_of_beq_false h2
      have p1 := (el_in (s := r) (f := S_Span.D) (k := 2) (i := 0) (by omega) (by omega))
      have p2 := (el_in (s := r) (f := S_Span.D) (k := 2) (i := 0) (by omega) (by omega))
      cases h5 : r_Near_8 r (imin (zC n (-2199023255552)) 2199023255552) (((r.l.length : Nat) : Int) - 1).toNat 1 (imin (zC (imin (zC n (-2199023255552)) 2199023255552) ((GS.at r 0).lo)) ((GS.at r 0).hi)) with
      | x0 i8 v8_0 =>
        try dsimp only
        exact ze ((r_Near_o1 r n i8 v8_0) ++ []) (And.intro (po_lr (q := lr_r_Near_8 r (imin (zC n (-2199023255552)) 2199023255552)) (lp_r_Near_8 r (imin (zC n (-2199023255552)) 2199023255552) (((r.l.length : Nat) : Int) - 1).toNat 1 (imin (zC (imin (zC n (-2199023255552)) 2199023255552) ((GS.at r 0).lo)) ((GS.at r 0).hi)) (by omega) (by omega)) h5) (And.intro p2 (And.intro p1 (And.intro h2 (And.intro (zb S_Span.D r) (And.intro h1 (And.intro (T_r_Valid r (by omega)) trivial))))))) (by kernel_rfl)
  | false =>
    exact ze [.pure (B (zF r)), .dec false] (And.intro h1 (And.intro (T_r_Valid r (by omega)) trivial)) (by kernel_rfl)
end Go.VS

namespace Go.VS
open Go Go.Proofs
set_option maxHeartbeats 0
set_option linter.unusedSimpArgs false
set_option linter.unusedVariables false
theorem drop_tl {α : Type} {l rest : List α} {i : Nat} {x : α} (h : l.drop i = x :: rest) : l.drop i = x :: l.drop (i + 1) := by
  rw [← List.drop_drop, h]; rfl
noncomputable def lp46_3 : Code := subC [1, 1, 0, 1, 0, 0] (bodyC Tryz.f46)

def sd20302 (l : GS S_Span) (i3 : Nat) (x3 : S_Span) (zM : List S_Span) : St := ⟨49, [(5, I ((i3 + 1 : Nat) : Int)), (11, I ((i3 + 1 : Nat) : Int)), (10, I ((i3 : Nat) : Int)), (22, B true), (21, I x3.hi), (20, .ptr (I x3.hi)), (19, .ptr (.agg [I x3.lo, I x3.hi])), (18, I ((i3 : Nat) : Int)), (17, .sl l.nl (l.l.map S_Span.D) (zsl l.nl 2) none), (16, I x3.lo), (15, .ptr (I x3.lo)), (14, .ptr (.agg [I x3.lo, I x3.hi])), (13, I ((i3 : Nat) : Int)), (12, .sl l.nl (l.l.map S_Span.D) (zsl l.nl 2) none), (9, B true), (8, I ((l.l.length : Nat) : Int)), (7, .sl l.nl (l.l.map S_Span.D) (zsl l.nl 2) none), (6, I ((i3 : Nat) : Int)), (0, .sl l.nl (l.l.map S_Span.D) (zsl l.nl 2) none), (4, .lsl 0 0 zM.length 2 none), (5, I ((i3 : Nat) : Int))], [(0, ⟨zM.map S_Span.D, 2, false⟩)], 1, 0⟩

def sd20303 (l : GS S_Span) (i3 : Nat) (x3 : S_Span) (zM : List S_Span) : St := ⟨49, [(5, I ((i3 + 1 : Nat) : Int)), (11, I ((i3 + 1 : Nat) : Int)), (10, I ((i3 : Nat) : Int)), (4, .lsl 2 0 ((zM ++ [x3]).length) 2 none), (43, .lsl 2 0 ((zM ++ [x3]).length) 2 none), (42, .lsl 1 0 1 2 (some 1)), (41, .agg [I x3.lo, I x3.hi]), (40, .ptr (.agg [I x3.lo, I x3.hi])), (39, I ((i3 : Nat) : Int)), (38, .sl l.nl (l.l.map S_Span.D) (zsl l.nl 2) none), (37, .lsl 0 0 zM.length 2 none), (36, B false), (35, B false), (34, I x3.hi), (33, .ptr (I x3.hi)), (32, .ptr (.agg [I x3.lo, I x3.hi])), (31, I ((i3 : Nat) : Int)), (30, .sl l.nl (l.l.map S_Span.D) (zsl l.nl 2) none), (29, B false), (28, B false), (27, I x3.lo), (26, .ptr (I x3.lo)), (25, .ptr (.agg [I x3.lo, I x3.hi])), (24, I ((i3 : Nat) : Int)), (23, .sl l.nl (l.l.map S_Span.D) (zsl l.nl 2) none), (22, B false), (21, I x3.hi), (20, .ptr (I x3.hi)), (19, .ptr (.agg [I x3.lo, I x3.hi])), (18, I ((i3 : Nat) : Int)), (17, .sl l.nl (l.l.map S_Span.D) (zsl l.nl 2) none), (16, I x3.lo), (15, .ptr (I x3.lo)), (14, .ptr (.agg [I x3.lo, I x3.hi])), (13, I ((i3 : Nat) : Int)), (12, .sl l.nl (l.l.map S_Span.D) (zsl l.nl 2) none), (9, B true), (8, I ((l.l.length : Nat) : Int)), (7, .sl l.nl (l.l.map S_Span.D) (zsl l.nl 2) none), (6, I ((i3 : Nat) : Int)), (0, .sl l.nl (l.l.map S_Span.D) (zsl l.nl 2) none), (4, .lsl 0 0 zM.length 2 none), (5, I ((i3 : Nat) : Int))], [(1, ⟨[.agg [I x3.lo, I x3.hi]], 2, false⟩), (2, ⟨(zM ++ [x3]).map S_Span.D, 2, false⟩)], 3, 0⟩

inductive LR_r_Of_3 where
  | x0 (zM : List S_Span)
  | x1 (i3 : Nat) (x3 : S_Span) (zM : List S_Span)
  | x2 (i3 : Nat) (x3 : S_Span) (zM : List S_Span)
  | x3
  | x4 (i3 : Nat) (x3 : S_Span)
  | x5 (i3 : Nat) (x3 : S_Span)
instance : Inhabited LR_r_Of_3 := ⟨.x0 default⟩
def r_Of_3a : List S_Span → Nat → (List S_Span) → LR_r_Of_3
  | [], i3, zM => .x0 zM
  | x3 :: zS, i3, zM =>
    bif decide (x3.lo > x3.hi) then
      r_Of_3a zS (i3 + 1) zM
    else
      bif decide (x3.lo < (-1099511627776)) then
        .x1 i3 x3 zM
      else
        bif decide (x3.hi > 1099511627776) then
          .x2 i3 x3 zM
        else
          r_Of_3a zS (i3 + 1) (zM ++ [x3])
def r_Of_3 : List S_Span → Nat → LR_r_Of_3
  | [], i3 => .x3
  | x3 :: zS, i3 =>
    bif decide (x3.lo > x3.hi) then
      r_Of_3 zS (i3 + 1)
    else
      bif decide (x3.lo < (-1099511627776)) then
        .x4 i3 x3
      else
        bif decide (x3.hi > 1099511627776) then
          .x5 i3 x3
        else
          r_Of_3a zS (i3 + 1) [x3]
def lr_r_Of_3 (l : GS S_Span) : LR_r_Of_3 → Exit × St
  | .x0 zM => ((.exit 0), ⟨49, [(9, B false), (8, I ((l.l.length : Nat) : Int)), (7, .sl l.nl (l.l.map S_Span.D) (zsl l.nl 2) none), (6, I ((l.l.length : Nat) : Int)), (0, .sl l.nl (l.l.map S_Span.D) (zsl l.nl 2) none), (4, .lsl 0 0 zM.length 2 none), (5, I ((l.l.length : Nat) : Int))], [(0, ⟨zM.map S_Span.D, 2, false⟩)], 1, 0⟩)
  | .x1 i3 x3 zM => (.ret, ⟨49, [(3, I 2), (2, .sl true [] 0 none), (36, B true), (35, .tup []), (34, .tup []), (33, .tup []), (32, .tup []), (31, .tup []), (30, .tup []), (29, B true), (28, B true), (27, I x3.lo), (26, .ptr (I x3.lo)), (25, .ptr (.agg [I x3.lo, I x3.hi])), (24, I ((i3 : Nat) : Int)), (23, .sl l.nl (l.l.map S_Span.D) (zsl l.nl 2) none), (22, B false), (21, I x3.hi), (20, .ptr (I x3.hi)), (19, .ptr (.agg [I x3.lo, I x3.hi])), (18, I ((i3 : Nat) : Int)), (17, .sl l.nl (l.l.map S_Span.D) (zsl l.nl 2) none), (16, I x3.lo), (15, .ptr (I x3.lo)), (14, .ptr (.agg [I x3.lo, I x3.hi])), (13, I ((i3 : Nat) : Int)), (12, .sl l.nl (l.l.map S_Span.D) (zsl l.nl 2) none), (9, B true), (8, I ((l.l.length : Nat) : Int)), (7, .sl l.nl (l.l.map S_Span.D) (zsl l.nl 2) none), (6, I ((i3 : Nat) : Int)), (0, .sl l.nl (l.l.map S_Span.D) (zsl l.nl 2) none), (4, .lsl 0 0 zM.length 2 none), (5, I ((i3 : Nat) : Int))], [(0, ⟨zM.map S_Span.D, 2, false⟩)], 1, 0⟩)
  | .x2 i3 x3 zM => (.ret, ⟨49, [(3, I 2), (2, .sl true [] 0 none), (36, B true), (35, B true), (34, I x3.hi), (33, .ptr (I x3.hi)), (32, .ptr (.agg [I x3.lo, I x3.hi])), (31, I ((i3 : Nat) : Int)), (30, .sl l.nl (l.l.map S_Span.D) (zsl l.nl 2) none), (29, B false), (28, B false), (27, I x3.lo), (26, .ptr (I x3.lo)), (25, .ptr (.agg [I x3.lo, I x3.hi])), (24, I ((i3 : Nat) : Int)), (23, .sl l.nl (l.l.map S_Span.D) (zsl l.nl 2) none), (22, B false), (21, I x3.hi), (20, .ptr (I x3.hi)), (19, .ptr (.agg [I x3.lo, I x3.hi])), (18, I ((i3 : Nat) : Int)), (17, .sl l.nl (l.l.map S_Span.D) (zsl l.nl 2) none), (16, I x3.lo), (15, .ptr (I x3.lo)), (14, .ptr (.agg [I x3.lo, I x3.hi])), (13, I ((i3 : Nat) : Int)), (12, .sl l.nl (l.l.map S_Span.D) (zsl l.nl 2) none), (9, B true), (8, I ((l.l.length : Nat) : Int)), (7, .sl l.nl (l.l.map S_Span.D) (zsl l.nl 2) none), (6, I ((i3 : Nat) : Int)), (0, .sl l.nl (l.l.map S_Span.D) (zsl l.nl 2) none), (4, .lsl 0 0 zM.length 2 none), (5, I ((i3 : Nat) : Int))], [(0, ⟨zM.map S_Span.D, 2, false⟩)], 1, 0⟩)
  | .x3 => ((.exit 0), ⟨49, [(9, B false), (8, I ((l.l.length : Nat) : Int)), (7, .sl l.nl (l.l.map S_Span.D) (zsl l.nl 2) none), (6, I ((l.l.length : Nat) : Int)), (0, .sl l.nl (l.l.map S_Span.D) (zsl l.nl 2) none), (4, .sl true [] 0 none), (5, I ((l.l.length : Nat) : Int))], [], 0, 0⟩)
  | .x4 i3 x3 => (.ret, ⟨49, [(3, I 2), (2, .sl true [] 0 none), (36, B true), (35, .tup []), (34, .tup []), (33, .tup []), (32, .tup []), (31, .tup []), (30, .tup []), (29, B true), (28, B true), (27, I x3.lo), (26, .ptr (I x3.lo)), (25, .ptr (.agg [I x3.lo, I x3.hi])), (24, I ((i3 : Nat) : Int)), (23, .sl l.nl (l.l.map S_Span.D) (zsl l.nl 2) none), (22, B false), (21, I x3.hi), (20, .ptr (I x3.hi)), (19, .ptr (.agg [I x3.lo, I x3.hi])), (18, I ((i3 : Nat) : Int)), (17, .sl l.nl (l.l.map S_Span.D) (zsl l.nl 2) none), (16, I x3.lo), (15, .ptr (I x3.lo)), (14, .ptr (.agg [I x3.lo, I x3.hi])), (13, I ((i3 : Nat) : Int)), (12, .sl l.nl (l.l.map S_Span.D) (zsl l.nl 2) none), (9, B true), (8, I ((l.l.length : Nat) : Int)), (7, .sl l.nl (l.l.map S_Span.D) (zsl l.nl 2) none), (6, I ((i3 : Nat) : Int)), (0, .sl l.nl (l.l.map S_Span.D) (zsl l.nl 2) none), (4, .sl true [] 0 none), (5, I ((i3 : Nat) : Int))], [], 0, 0⟩)
  | .x5 i3 x3 => (.ret, ⟨49, [(3, I 2), (2, .sl true [] 0 none), (36, B true), (35, B true), (34, I x3.hi), (33, .ptr (I x3.hi)), (32, .ptr (.agg [I x3.lo, I x3.hi])), (31, I ((i3 : Nat) : Int)), (30, .sl l.nl (l.l.map S_Span.D) (zsl l.nl 2) none), (29, B false), (28, B false), (27, I x3.lo), (26, .ptr (I x3.lo)), (25, .ptr (.agg [I x3.lo, I x3.hi])), (24, I ((i3 : Nat) : Int)), (23, .sl l.nl (l.l.map S_Span.D) (zsl l.nl 2) none), (22, B false), (21, I x3.hi), (20, .ptr (I x3.hi)), (19, .ptr (.agg [I x3.lo, I x3.hi])), (18, I ((i3 : Nat) : Int)), (17, .sl l.nl (l.l.map S_Span.D) (zsl l.nl 2) none), (16, I x3.lo), (15, .ptr (I x3.lo)), (14, .ptr (.agg [I x3.lo, I x3.hi])), (13, I ((i3 : Nat) : Int)), (12, .sl l.nl (l.l.map S_Span.D) (zsl l.nl 2) none), (9, B true), (8, I ((l.l.length : Nat) : Int)), (7, .sl l.nl (l.l.map S_Span.D) (zsl l.nl 2) none), (6, I ((i3 : Nat) : Int)), (0, .sl l.nl (l.l.map S_Span.D) (zsl l.nl 2) none), (4, .sl true [] 0 none), (5, I ((i3 : Nat) : Int))], [], 0, 0⟩)
def iv_r_Of_3 (l : GS S_Span) : LR_r_Of_3 → Prop
  | .x0 zM => (zM.length ≤ l.l.length)
  | .x1 i3 x3 zM => (zM.length ≤ i3)
  | .x2 i3 x3 zM => (zM.length ≤ i3)
  | .x3 => True
  | .x4 i3 x3 => True
  | .x5 i3 x3 => True
def r_Of_3a_l_o1 (l : GS S_Span) (x3 : S_Span) : List Ora := [.rw 8 (I ((l.l.length : Nat) : Int)), .dec true, .el (.agg [I x3.lo, I x3.hi]), .el (.agg [I x3.lo, I x3.hi]), .dec false, .el (.agg [I x3.lo, I x3.hi])]
theorem lp_r_Of_3a (l : GS S_Span) : ∀ (zS : List S_Span) (i3 : Nat) (zM : List S_Span) (hd3 : l.l.drop i3 = zS) (hi3 : i3 ≤ l.l.length) (hg3_va3_0 : zM.length ≤ i3) (hL3 : l.l.length ≤ 1099511627776), (lim cfg).loop 46 lp46_3 ⟨49, [(0, .sl l.nl (l.l.map S_Span.D) (zsl l.nl 2) none), (4, .lsl 0 0 zM.length 2 none), (5, I ((i3 : Nat) : Int))], [(0, ⟨zM.map S_Span.D, 2, false⟩)], 1, 0⟩ = some (lr_r_Of_3 l (r_Of_3a zS i3 zM)) := by
  intro zS
  induction zS with
  | nil =>
    intro i3 zM hd3 hi3 hg3_va3_0 hL3
    unfold r_Of_3a
    obtain rfl : i3 = l.l.length := nil_eq hd3 hi3
    exact zI [.rw 8 (I ((l.l.length : Nat) : Int)), .dec false] (And.intro (lt_no hd3) (And.intro (zb S_Span.D l) trivial)) (by kernel_rfl)
  | cons x3 zS ih =>
    intro i3 zM hd3 hi3 hg3_va3_0 hL3
    have hlt3 := zk hd3
    unfold r_Of_3a
    have p1 := (el_at (s := l) (f := S_Span.D) (k := 2) hd3)
    have p2 := (el_at (s := l) (f := S_Span.D) (k := 2) hd3)
    cases h7 : decide (x3.lo > x3.hi) with
    | true =>
      have g7 := of_decide_eq_true h7
      exact po_turn' (ks := [0, 4, 5]) (st' := (sd20302 l i3 x3 zM)) [.rw 8 (I ((l.l.length : Nat) : Int)), .dec true, .el (.agg [I x3.lo, I x3.hi]), .el (.agg [I x3.lo, I x3.hi]), .dec true, .rw 11 (I ((i3 + 1 : Nat) : Int))] (And.intro (inc_rw (i := i3) (by have := zk hd3; omega)) (And.intro h7 (And.intro p2 (And.intro p1 (And.intro (lt_at hd3) (And.intro (zb S_Span.D l) trivial)))))) (by kernel_rfl) (by (simp only [sd20302, go_sem, List.length_set, Nat.reduceAdd, Nat.reduceEqDiff, Nat.reduceLT, Nat.reduceLeDiff, bI2, zi.idsL, zi.renL, zi.snapAll, z7.idsL, z7.renL, z7.snapAll]) <;> rfl) (ih (i3 + 1) zM (zp hd3) (zk hd3) (by omega) (by omega)) (by kernel_rfl)
    | false =>
      have g7 := of_decide_eq_false h7
      have p3 := (el_at (s := l) (f := S_Span.D) (k := 2) hd3)
      cases h8 : decide (x3.lo < (-1099511627776)) with
      | true =>
        have g8 := of_decide_eq_true h8
        exact zI ((r_Of_3a_l_o1 l x3) ++ [.dec true]) (And.intro h8 (And.intro p3 (And.intro h7 (And.intro p2 (And.intro p1 (And.intro (lt_at hd3) (And.intro (zb S_Span.D l) trivial))))))) (by kernel_rfl)
      | false =>
        have g8 := of_decide_eq_false h8
        have p4 := (el_at (s := l) (f := S_Span.D) (k := 2) hd3)
        cases h9 : decide (x3.hi > 1099511627776) with
        | true =>
          have g9 := of_decide_eq_true h9
          exact zI ((r_Of_3a_l_o1 l x3) ++ [.dec false, .el (.agg [I x3.lo, I x3.hi]), .dec true]) (And.intro h9 (And.intro p4 (And.intro h8 (And.intro p3 (And.intro h7 (And.intro p2 (And.intro p1 (And.intro (lt_at hd3) (And.intro (zb S_Span.D l) trivial))))))))) (by kernel_rfl)
        | false =>
          have g9 := of_decide_eq_false h9
          exact po_turn' (ks := [0, 4, 5]) (st' := (sd20303 l i3 x3 zM)) ((r_Of_3a_l_o1 l x3) ++ [.dec false, .el (.agg [I x3.lo, I x3.hi]), .dec false, .el (.agg [I x3.lo, I x3.hi]), .op (some 43) ⟨.lsl 2 0 ((zM ++ [x3]).length) 2 none, [(0, none), (2, some ⟨(zM ++ [x3]).map S_Span.D, 2, false⟩)], [0, 1], 3⟩, .rw 11 (I ((i3 + 1 : Nat) : Int))]) (And.intro (inc_rw (i := i3) (by have := zk hd3; omega)) (And.intro (app_row (f := S_Span.D) (te := ty25) (gO := zj [(0, ⟨zM.map S_Span.D, 2, false⟩), (1, ⟨[.agg [I x3.lo, I x3.hi]], 2, false⟩)]) (nxt := 2) (o := 0) (o2 := 1) (fz := false) z7 zM x3 (by kernel_rfl) (by kernel_rfl) rfl (by kernel_rfl) (by decide) ⟨by simp only [ty25, big] <;> (first | assumption | omega | (exact two_bd (by omega) (by omega)) | (exact add_some (by omega)) | (exact add_some' (by omega)) | (exact one_some (by omega)) | (exact one_some' (by omega)) | (exact zA _ (by omega)) | (exact Nat.le_trans (hJl _) (by rw [zd]; omega)) | (exact drop_tl (by assumption)) | (simp only [za] at * <;> omega) | (simp only [srtL, zd, GS.some_l, List.length_set, List.length_append, List.length_cons, List.length_nil] at * <;> first | with_reducible assumption | omega) | (simp only [srtL, zd, GS.some_l, List.length_set, List.length_append, List.length_cons, List.length_nil, za] at * <;> first | with_reducible assumption | omega) | (simp at * <;> omega)), by simp only [big] <;> (first | assumption | omega | (exact two_bd (by omega) (by omega)) | (exact add_some (by omega)) | (exact add_some' (by omega)) | (exact one_some (by omega)) | (exact one_some' (by omega)) | (exact zA _ (by omega)) | (exact Nat.le_trans (hJl _) (by rw [zd]; omega)) | (exact drop_tl (by assumption)) | (simp only [za] at * <;> omega) | (simp only [srtL, zd, GS.some_l, List.length_set, List.length_append, List.length_cons, List.length_nil] at * <;> first | with_reducible assumption | omega) | (simp only [srtL, zd, GS.some_l, List.length_set, List.length_append, List.length_cons, List.length_nil, za] at * <;> first | with_reducible assumption | omega) | (simp at * <;> omega))⟩) (And.intro (el_at (s := l) (f := S_Span.D) (k := 2) hd3) (And.intro h9 (And.intro p4 (And.intro h8 (And.intro p3 (And.intro h7 (And.intro p2 (And.intro p1 (And.intro (lt_at hd3) (And.intro (zb S_Span.D l) trivial)))))))))))) (by kernel_rfl) (by (simp only [sd20303, go_sem, List.length_set, Nat.reduceAdd, Nat.reduceEqDiff, Nat.reduceLT, Nat.reduceLeDiff, bI2, zi.idsL, zi.renL, zi.snapAll, z7.idsL, z7.renL, z7.snapAll]) <;> rfl) (ih (i3 + 1) (zM ++ [x3]) (zp hd3) (zk hd3) (by simp only [List.length_append, List.length_cons, List.length_nil] at * <;> omega) (by omega)) (by kernel_rfl)
theorem ivt_r_Of_3a (l : GS S_Span) : ∀ (zS : List S_Span) (i3 : Nat) (zM : List S_Span) (hd3 : l.l.drop i3 = zS) (hi3 : i3 ≤ l.l.length) (hg3_va3_0 : zM.length ≤ i3) (hL3 : l.l.length ≤ 1099511627776), iv_r_Of_3 l (r_Of_3a zS i3 zM) := by
  intro zS
  induction zS with
  | nil =>
    intro i3 zM hd3 hi3 hg3_va3_0 hL3
    unfold r_Of_3a
    obtain rfl : i3 = l.l.length := nil_eq hd3 hi3
    exact hg3_va3_0
  | cons x3 zS ih =>
    intro i3 zM hd3 hi3 hg3_va3_0 hL3
    have hlt3 := zk hd3
    unfold r_Of_3a
    cases h7 : decide (x3.lo > x3.hi) with
    | true =>
      have g7 := of_decide_eq_true h7
      exact ih (i3 + 1) zM (zp hd3) (zk hd3) (by omega) (by omega)
    | false =>
      have g7 := of_decide_eq_false h7
      cases h8 : decide (x3.lo < (-1099511627776)) with
      | true =>
        have g8 := of_decide_eq_true h8
        exact hg3_va3_0
      | false =>
        have g8 := of_decide_eq_false h8
        cases h9 : decide (x3.hi > 1099511627776) with
        | true =>
          have g9 := of_decide_eq_true h9
          exact hg3_va3_0
        | false =>
          have g9 := of_decide_eq_false h9
          exact ih (i3 + 1) (zM ++ [x3]) (zp hd3) (zk hd3) (by simp only [List.length_append, List.length_cons, List.length_nil] at * <;> omega) (by omega)
def r_Of_3_l_o1 (l : GS S_Span) (x3 : S_Span) : List Ora := [.rw 8 (I ((l.l.length : Nat) : Int)), .dec true, .el (.agg [I x3.lo, I x3.hi]), .el (.agg [I x3.lo, I x3.hi]), .dec false, .el (.agg [I x3.lo, I x3.hi])]
theorem lp_r_Of_3 (l : GS S_Span) : ∀ (zS : List S_Span) (i3 : Nat) (hd3 : l.l.drop i3 = zS) (hi3 : i3 ≤ l.l.length) (hL3 : l.l.length ≤ 1099511627776), (lim cfg).loop 46 lp46_3 ⟨49, [(0, .sl l.nl (l.l.map S_Span.D) (zsl l.nl 2) none), (4, .sl true [] 0 none), (5, I ((i3 : Nat) : Int))], [], 0, 0⟩ = some (lr_r_Of_3 l (r_Of_3 zS i3)) := by
  intro zS
  induction zS with
  | nil =>
    intro i3 hd3 hi3 hL3
    unfold r_Of_3
    obtain rfl : i3 = l.l.length := nil_eq hd3 hi3
    exact zI [.rw 8 (I ((l.l.length : Nat) : Int)), .dec false] (And.intro (lt_no hd3) (And.intro (zb S_Span.D l) trivial)) (by kernel_rfl)
  | cons x3 zS ih =>
    intro i3 hd3 hi3 hL3
    have hlt3 := zk hd3
    unfold r_Of_3
    have p1 := (el_at (s := l) (f := S_Span.D) (k := 2) hd3)
    have p2 := (el_at (s := l) (f := S_Span.D) (k := 2) hd3)
    cases h10 : decide (x3.lo > x3.hi) with
    | true =>
      have g10 := of_decide_eq_true h10
      exact po_turn [.rw 8 (I ((l.l.length : Nat) : Int)), .dec true, .el (.agg [I x3.lo, I x3.hi]), .el (.agg [I x3.lo, I x3.hi]), .dec true, .rw 11 (I ((i3 + 1 : Nat) : Int))] (And.intro (inc_rw (i := i3) (by have := zk hd3; omega)) (And.intro h10 (And.intro p2 (And.intro p1 (And.intro (lt_at hd3) (And.intro (zb S_Span.D l) trivial)))))) (ih (i3 + 1) (zp hd3) (zk hd3) (by omega)) (by kernel_rfl)
    | false =>
      have g10 := of_decide_eq_false h10
      have p3 := (el_at (s := l) (f := S_Span.D) (k := 2) hd3)
      cases h11 : decide (x3.lo < (-1099511627776)) with
      | true =>
        have g11 := of_decide_eq_true h11
        exact zI ((r_Of_3_l_o1 l x3) ++ [.dec true]) (And.intro h11 (And.intro p3 (And.intro h10 (And.intro p2 (And.intro p1 (And.intro (lt_at hd3) (And.intro (zb S_Span.D l) trivial))))))) (by kernel_rfl)
      | false =>
        have g11 := of_decide_eq_false h11
        have p4 := (el_at (s := l) (f := S_Span.D) (k := 2) hd3)
        cases h12 : decide (x3.hi > 1099511627776) with
        | true =>
          have g12 := of_decide_eq_true h12
          exact zI ((r_Of_3_l_o1 l x3) ++ [.dec false, .el (.agg [I x3.lo, I x3.hi]), .dec true]) (And.intro h12 (And.intro p4 (And.intro h11 (And.intro p3 (And.intro h10 (And.intro p2 (And.intro p1 (And.intro (lt_at hd3) (And.intro (zb S_Span.D l) trivial))))))))) (by kernel_rfl)
        | false =>
          have g12 := of_decide_eq_false h12
          exact po_turn ((r_Of_3_l_o1 l x3) ++ [.dec false, .el (.agg [I x3.lo, I x3.hi]), .dec false, .el (.agg [I x3.lo, I x3.hi]), .rw 11 (I ((i3 + 1 : Nat) : Int))]) (And.intro (inc_rw (i := i3) (by have := zk hd3; omega)) (And.intro (el_at (s := l) (f := S_Span.D) (k := 2) hd3) (And.intro h12 (And.intro p4 (And.intro h11 (And.intro p3 (And.intro h10 (And.intro p2 (And.intro p1 (And.intro (lt_at hd3) (And.intro (zb S_Span.D l) trivial))))))))))) (lp_r_Of_3a l _ (i3 + 1) [x3] (zp hd3) (zk hd3) (by simp only [List.length_append, List.length_cons, List.length_nil] at * <;> omega) (by omega)) (by kernel_rfl)
theorem ivt_r_Of_3 (l : GS S_Span) : ∀ (zS : List S_Span) (i3 : Nat) (hd3 : l.l.drop i3 = zS) (hi3 : i3 ≤ l.l.length) (hL3 : l.l.length ≤ 1099511627776), iv_r_Of_3 l (r_Of_3 zS i3) := by
  intro zS
  induction zS with
  | nil =>
    intro i3 hd3 hi3 hL3
    unfold r_Of_3
    obtain rfl : i3 = l.l.length := nil_eq hd3 hi3
    exact trivial
  | cons x3 zS ih =>
    intro i3 hd3 hi3 hL3
    have hlt3 := zk hd3
    unfold r_Of_3
    cases h10 : decide (x3.lo > x3.hi) with
    | true =>
      have g10 := of_decide_eq_true h10
      exact ih (i3 + 1) (zp hd3) (zk hd3) (by omega)
    | false =>
      have g10 := of_decide_eq_false h10
      cases h11 : decide (x3.lo < (-1099511627776)) with
      | true =>
        have g11 := of_decide_eq_true h11
        exact trivial
      | false =>
        have g11 := of_decide_eq_false h11
        cases h12 : decide (x3.hi > 1099511627776) with
        | true =>
          have g12 := of_decide_eq_true h12
          exact trivial
        | false =>
          have g12 := of_decide_eq_false h12
          exact ivt_r_Of_3a l _ (i3 + 1) [x3] (zp hd3) (zk hd3) (by simp only [List.length_append, List.length_cons, List.length_nil] at * <;> omega) (by omega)

def r_Of (l : GS S_Span) : (GS S_Span) × Int :=
  match r_Of_3 l.l 0 with
  | .x0 zM =>
    bif (JJ (GS.some zM)).nl then
      (((r_Fit (JJ (GS.some zM))).1), ((r_Fit (JJ (GS.some zM))).2))
    else
      (((r_Fit (JJ (GS.some zM))).1), ((r_Fit (JJ (GS.some zM))).2))
  | .x1 i3 x3 zM =>
    (GS.nil, 2)
  | .x2 i3 x3 zM =>
    (GS.nil, 2)
  | .x3 =>
    (((r_Fit (JJ GS.nil)).1), ((r_Fit (JJ GS.nil)).2))
  | .x4 i3 x3 =>
    (GS.nil, 2)
  | .x5 i3 x3 =>
    (GS.nil, 2)

def sd20304 (l : GS S_Span) (zM : List S_Span) : St := ⟨49, [(9, B false), (8, I ((l.l.length : Nat) : Int)), (7, .sl l.nl (l.l.map S_Span.D) (zsl l.nl 2) none), (6, I ((l.l.length : Nat) : Int)), (0, .sl l.nl (l.l.map S_Span.D) (zsl l.nl 2) none), (4, .lsl 0 0 zM.length 2 none), (5, I ((l.l.length : Nat) : Int))], [(0, ⟨zM.map S_Span.D, 2, false⟩)], 1, 0⟩

def sd20305 (l : GS S_Span) (i3 : Nat) (x3 : S_Span) (zM : List S_Span) : St := ⟨49, [(3, I 2), (2, .sl true [] 0 none), (36, B true), (35, .tup []), (34, .tup []), (33, .tup []), (32, .tup []), (31, .tup []), (30, .tup []), (29, B true), (28, B true), (27, I x3.lo), (26, .ptr (I x3.lo)), (25, .ptr (.agg [I x3.lo, I x3.hi])), (24, I ((i3 : Nat) : Int)), (23, .sl l.nl (l.l.map S_Span.D) (zsl l.nl 2) none), (22, B false), (21, I x3.hi), (20, .ptr (I x3.hi)), (19, .ptr (.agg [I x3.lo, I x3.hi])), (18, I ((i3 : Nat) : Int)), (17, .sl l.nl (l.l.map S_Span.D) (zsl l.nl 2) none), (16, I x3.lo), (15, .ptr (I x3.lo)), (14, .ptr (.agg [I x3.lo, I x3.hi])), (13, I ((i3 : Nat) : Int)), (12, .sl l.nl (l.l.map S_Span.D) (zsl l.nl 2) none), (9, B true), (8, I ((l.l.length : Nat) : Int)), (7, .sl l.nl (l.l.map S_Span.D) (zsl l.nl 2) none), (6, I ((i3 : Nat) : Int)), (0, .sl l.nl (l.l.map S_Span.D) (zsl l.nl 2) none), (4, .lsl 0 0 zM.length 2 none), (5, I ((i3 : Nat) : Int))], [(0, ⟨zM.map S_Span.D, 2, false⟩)], 1, 0⟩

def sd20306 (l : GS S_Span) (i3 : Nat) (x3 : S_Span) (zM : List S_Span) : St := ⟨49, [(3, I 2), (2, .sl true [] 0 none), (36, B true), (35, B true), (34, I x3.hi), (33, .ptr (I x3.hi)), (32, .ptr (.agg [I x3.lo, I x3.hi])), (31, I ((i3 : Nat) : Int)), (30, .sl l.nl (l.l.map S_Span.D) (zsl l.nl 2) none), (29, B false), (28, B false), (27, I x3.lo), (26, .ptr (I x3.lo)), (25, .ptr (.agg [I x3.lo, I x3.hi])), (24, I ((i3 : Nat) : Int)), (23, .sl l.nl (l.l.map S_Span.D) (zsl l.nl 2) none), (22, B false), (21, I x3.hi), (20, .ptr (I x3.hi)), (19, .ptr (.agg [I x3.lo, I x3.hi])), (18, I ((i3 : Nat) : Int)), (17, .sl l.nl (l.l.map S_Span.D) (zsl l.nl 2) none), (16, I x3.lo), (15, .ptr (I x3.lo)), (14, .ptr (.agg [I x3.lo, I x3.hi])), (13, I ((i3 : Nat) : Int)), (12, .sl l.nl (l.l.map S_Span.D) (zsl l.nl 2) none), (9, B true), (8, I ((l.l.length : Nat) : Int)), (7, .sl l.nl (l.l.map S_Span.D) (zsl l.nl 2) none), (6, I ((i3 : Nat) : Int)), (0, .sl l.nl (l.l.map S_Span.D) (zsl l.nl 2) none), (4, .lsl 0 0 zM.length 2 none), (5, I ((i3 : Nat) : Int))], [(0, ⟨zM.map S_Span.D, 2, false⟩)], 1, 0⟩

def sd20307 (l : GS S_Span) : St := ⟨49, [(9, B false), (8, I ((l.l.length : Nat) : Int)), (7, .sl l.nl (l.l.map S_Span.D) (zsl l.nl 2) none), (6, I ((l.l.length : Nat) : Int)), (0, .sl l.nl (l.l.map S_Span.D) (zsl l.nl 2) none), (4, .sl true [] 0 none), (5, I ((l.l.length : Nat) : Int))], [], 0, 0⟩

def sd20308 (l : GS S_Span) (i3 : Nat) (x3 : S_Span) : St := ⟨49, [(3, I 2), (2, .sl true [] 0 none), (36, B true), (35, .tup []), (34, .tup []), (33, .tup []), (32, .tup []), (31, .tup []), (30, .tup []), (29, B true), (28, B true), (27, I x3.lo), (26, .ptr (I x3.lo)), (25, .ptr (.agg [I x3.lo, I x3.hi])), (24, I ((i3 : Nat) : Int)), (23, .sl l.nl (l.l.map S_Span.D) (zsl l.nl 2) none), (22, B false), (21, I x3.hi), (20, .ptr (I x3.hi)), (19, .ptr (.agg [I x3.lo, I x3.hi])), (18, I ((i3 : Nat) : Int)), (17, .sl l.nl (l.l.map S_Span.D) (zsl l.nl 2) none), (16, I x3.lo), (15, .ptr (I x3.lo)), (14, .ptr (.agg [I x3.lo, I x3.hi])), (13, I ((i3 : Nat) : Int)), (12, .sl l.nl (l.l.map S_Span.D) (zsl l.nl 2) none), (9, B true), (8, I ((l.l.length : Nat) : Int)), (7, .sl l.nl (l.l.map S_Span.D) (zsl l.nl 2) none), (6, I ((i3 : Nat) : Int)), (0, .sl l.nl (l.l.map S_Span.D) (zsl l.nl 2) none), (4, .sl true [] 0 none), (5, I ((i3 : Nat) : Int))], [], 0, 0⟩

def sd20309 (l : GS S_Span) (i3 : Nat) (x3 : S_Span) : St := ⟨49, [(3, I 2), (2, .sl true [] 0 none), (36, B true), (35, B true), (34, I x3.hi), (33, .ptr (I x3.hi)), (32, .ptr (.agg [I x3.lo, I x3.hi])), (31, I ((i3 : Nat) : Int)), (30, .sl l.nl (l.l.map S_Span.D) (zsl l.nl 2) none), (29, B false), (28, B false), (27, I x3.lo), (26, .ptr (I x3.lo)), (25, .ptr (.agg [I x3.lo, I x3.hi])), (24, I ((i3 : Nat) : Int)), (23, .sl l.nl (l.l.map S_Span.D) (zsl l.nl 2) none), (22, B false), (21, I x3.hi), (20, .ptr (I x3.hi)), (19, .ptr (.agg [I x3.lo, I x3.hi])), (18, I ((i3 : Nat) : Int)), (17, .sl l.nl (l.l.map S_Span.D) (zsl l.nl 2) none), (16, I x3.lo), (15, .ptr (I x3.lo)), (14, .ptr (.agg [I x3.lo, I x3.hi])), (13, I ((i3 : Nat) : Int)), (12, .sl l.nl (l.l.map S_Span.D) (zsl l.nl 2) none), (9, B true), (8, I ((l.l.length : Nat) : Int)), (7, .sl l.nl (l.l.map S_Span.D) (zsl l.nl 2) none), (6, I ((i3 : Nat) : Int)), (0, .sl l.nl (l.l.map S_Span.D) (zsl l.nl 2) none), (4, .sl true [] 0 none), (5, I ((i3 : Nat) : Int))], [], 0, 0⟩

theorem T_r_Of (l : GS S_Span) (hL : l.l.length ≤ 1073741824) : (lim cfg).pure 46 [GS.D S_Span.D 2 l] = some (.tup [GS.D S_Span.D 2 ((r_Of l).1), I ((r_Of l).2)]) := by
  unfold r_Of
  cases h13 : r_Of_3 l.l 0 with
  | x0 zM =>
    try dsimp only
    have hv_h13 := ivt_r_Of_3 l l.l 0 (List.drop_zero) (Nat.zero_le _) (by omega)
    rw [h13] at hv_h13
    have hv_h13_0 := hv_h13
    try dsimp only [iv_r_Of_3] at hv_h13_0
    have p1 := (po_lr (q := lr_r_Of_3 l) (lp_r_Of_3 l l.l 0 (List.drop_zero) (Nat.zero_le _) (by omega)) h13)
    cases h14 : (JJ (GS.some zM)).nl with
    | true =>
      exact ze [.loop (.exit 0) (sd20304 l zM), .pureS (.sl ((JJ (GS.some zM)).nl) (((JJ (GS.some zM)).l).map S_Span.D) (zsl ((JJ (GS.some zM)).nl) 2) none) true [(0, .sl false (zM.map S_Span.D) 2 none, [0])], .pure (.tup [.sl (((r_Fit (JJ (GS.some zM))).1).nl) ((((r_Fit (JJ (GS.some zM))).1).l).map S_Span.D) (zsl (((r_Fit (JJ (GS.some zM))).1).nl) 2) none, I ((r_Fit (JJ (GS.some zM))).2)])] (And.intro (T_r_Fit (JJ (GS.some zM))) (And.intro (And.intro (show flat fuelD (.sl ((JJ (GS.some zM)).nl) (((JJ (GS.some zM)).l).map S_Span.D) (zsl ((JJ (GS.some zM)).nl) 2) none) = true from (by rw [h14] <;> kernel_rfl)) (And.intro (And.intro (snap_row (gO := zj [(0, ⟨zM.map S_Span.D, 2, false⟩)]) (o := 0) (len := zM.length) (cap := none) (fz := false) z7 zM (by kernel_rfl) (by omega)) trivial) (T_JJ (GS.some zM) (by simp only [srtL, zd, GS.some_l, List.length_set, List.length_append, List.length_cons, List.length_nil] at * <;> first | with_reducible assumption | omega)))) (And.intro p1 trivial))) (by kernel_rfl)
    | false =>
      exact ze [.loop (.exit 0) (sd20304 l zM), .pureS (.sl ((JJ (GS.some zM)).nl) (((JJ (GS.some zM)).l).map S_Span.D) (zsl ((JJ (GS.some zM)).nl) 2) none) false [(0, .sl false (zM.map S_Span.D) 2 none, [0])], .pure (.tup [.sl (((r_Fit (JJ (GS.some zM))).1).nl) ((((r_Fit (JJ (GS.some zM))).1).l).map S_Span.D) (zsl (((r_Fit (JJ (GS.some zM))).1).nl) 2) none, I ((r_Fit (JJ (GS.some zM))).2)])] (And.intro (T_r_Fit (JJ (GS.some zM))) (And.intro (And.intro (show flat fuelD (.sl ((JJ (GS.some zM)).nl) (((JJ (GS.some zM)).l).map S_Span.D) (zsl ((JJ (GS.some zM)).nl) 2) none) = false from (by rw [h14] <;> kernel_rfl)) (And.intro (And.intro (snap_row (gO := zj [(0, ⟨zM.map S_Span.D, 2, false⟩)]) (o := 0) (len := zM.length) (cap := none) (fz := false) z7 zM (by kernel_rfl) (by omega)) trivial) (T_JJ (GS.some zM) (by simp only [srtL, zd, GS.some_l, List.length_set, List.length_append, List.length_cons, List.length_nil] at * <;> first | with_reducible assumption | omega)))) (And.intro p1 trivial))) (by kernel_rfl)
  | x1 i3 x3 zM =>
    try dsimp only
    have hv_h13 := ivt_r_Of_3 l l.l 0 (List.drop_zero) (Nat.zero_le _) (by omega)
    rw [h13] at hv_h13
    have hv_h13_0 := hv_h13
    try dsimp only [iv_r_Of_3] at hv_h13_0
    exact ze [.loop .ret (sd20305 l i3 x3 zM)] (And.intro (po_lr (q := lr_r_Of_3 l) (lp_r_Of_3 l l.l 0 (List.drop_zero) (Nat.zero_le _) (by omega)) h13) trivial) (by kernel_rfl)
  | x2 i3 x3 zM =>
    try dsimp only
    have hv_h13 := ivt_r_Of_3 l l.l 0 (List.drop_zero) (Nat.zero_le _) (by omega)
    rw [h13] at hv_h13
    have hv_h13_0 := hv_h13
    try dsimp only [iv_r_Of_3] at hv_h13_0
    exact ze [.loop .ret (sd20306 l i3 x3 zM)] (And.intro (po_lr (q := lr_r_Of_3 l) (lp_r_Of_3 l l.l 0 (List.drop_zero) (Nat.zero_le _) (by omega)) h13) trivial) (by kernel_rfl)
  | x3 =>
    try dsimp only
    exact ze [.loop (.exit 0) (sd20307 l), .pure (.sl ((JJ GS.nil).nl) (((JJ GS.nil).l).map S_Span.D) (zsl ((JJ GS.nil).nl) 2) none), .pure (.tup [.sl (((r_Fit (JJ GS.nil)).1).nl) ((((r_Fit (JJ GS.nil)).1).l).map S_Span.D) (zsl (((r_Fit (JJ GS.nil)).1).nl) 2) none, I ((r_Fit (JJ GS.nil)).2)])] (And.intro (T_r_Fit (JJ GS.nil)) (And.intro (T_JJ GS.nil (by simp [GS.nil])) (And.intro (po_lr (q := lr_r_Of_3 l) (lp_r_Of_3 l l.l 0 (List.drop_zero) (Nat.zero_le _) (by omega)) h13) trivial))) (by kernel_rfl)
  | x4 i3 x3 =>
    try dsimp only
    exact ze [.loop .ret (sd20308 l i3 x3)] (And.intro (po_lr (q := lr_r_Of_3 l) (lp_r_Of_3 l l.l 0 (List.drop_zero) (Nat.zero_le _) (by omega)) h13) trivial) (by kernel_rfl)
  | x5 i3 x3 =>
    try dsimp only
    exact ze [.loop .ret (sd20309 l i3 x3)] (And.intro (po_lr (q := lr_r_Of_3 l) (lp_r_Of_3 l l.l 0 (List.drop_zero) (Nat.zero_le _) (by omega)) h13) trivial) (by kernel_rfl)

end Go.VS

/-
  Ranges: the loop that joins spans in order, plainly (printed by go/rg.py, a program of this claim's own; nothing of it is trusted).
-/
namespace Go.VS
open Go
set_option maxHeartbeats 0
set_option linter.unusedSimpArgs false
set_option linter.unusedVariables false

end Go.VS

namespace Go.VS
open Go Go.Proofs
set_option maxHeartbeats 0
set_option linter.unusedSimpArgs false
set_option linter.unusedVariables false
end Go.VS

/-
  Ranges: Hull, Next, Near, plainly. (A text of this claim's own; nothing of it is trusted.)
-/
namespace Go.VS
open Go
set_option maxHeartbeats 0
/-! ### Near -/
def Di (m z : Int) : Int := max (z - m) (m - z)
/-- The nearest of a set; of two the lesser one. -/
def Nst (m : Int) (S : Int → Prop) (v : Int) : Prop := S v ∧ ∀ z, S z → Di m v ≤ Di m z ∧ (Di m z = Di m v → v ≤ z)
theorem Nst.congr {m : Int} {S T : Int → Prop} {v : Int} (h : Nst m S v) (e : ∀ z, S z ↔ T z) : Nst m T v := ⟨(e v).1 h.1, fun z hz => h.2 z ((e z).2 hz)⟩
end Go.VS

/-
  Ranges: errors that do not come of valid ranges. (A text of this claim's own; nothing of it is trusted.)
-/
namespace Go.VS
open Go
section
variable {r : GS S_Span} (h : zF r = true)
include h
end
end Go.VS

/-
  Ranges: work, plainly. (A text of this claim's own; nothing of it is trusted.)
-/
namespace Go.VS
open Go
/-- What is taken of an answer: nothing, if it did not fit. -/
def takeR (r : GS S_Span) (e : Int) : GS S_Span := bif (e == 2) then GS.nil else r
def takeL (L : Bool) (e : Int) : Bool := bif (e == 2) then true else L
theorem gr_len {l : List S_Span} {res : GS S_Span × Int} (h : GR l res) : res.1.l.length ≤ 64 := by
  rcases h with ⟨_, h2, h3, _⟩ | ⟨_, h⟩
  · rw [h3]; exact h2
  · rw [h]; simp [GS.nil]
/-- Whether a value taken stands for a set, or nothing fits any more. -/
def Tk (L : Bool) (S : Int → Prop) (r : GS S_Span) : Prop := L = true ∨ (Ok r.l ∧ Rg S r.l)
theorem Tk.take {L : Bool} {S : Int → Prop} {res : GS S_Span × Int} (h : Res S res) : Tk (takeL L res.2) S (takeR res.1 res.2) := by
  unfold takeL takeR
  rcases h with ⟨h1, h2, h3⟩ | h
  · right; rw [h1]; exact ⟨h2, h3⟩
  · left; rw [h]; rfl
end Go.VS

/-
  Ranges: what Of, Union, Shift and Within come to (printed by go/rj.py, a program of this claim's own; nothing of it is trusted).
-/
namespace Go.VS
open Go
set_option maxHeartbeats 0

def ofF (s : S_Span) : List S_Span := someS s.lo s.hi
theorem of1_l (s : S_Span) : (zf s).l = ofF s := some_l _ _
theorem each3a_eq : ∀ (l v : List S_Span), ranges_each_3a l v = .x0 (v ++ l.flatMap ofF)
  | [], v => by simp [ranges_each_3a]
  | y :: l, v => by
    unfold ranges_each_3a
    rw [emp_app (fun z => ranges_each_3a l z), each3a_eq l _, List.flatMap_cons, List.append_assoc, of1_l]
theorem each3_eq : ∀ (l : List S_Span), (l.flatMap ofF = [] ∧ ranges_each_3 l = .x1) ∨ (l.flatMap ofF ≠ [] ∧ ranges_each_3 l = .x0 (l.flatMap ofF))
  | [] => .inl ⟨rfl, rfl⟩
  | y :: l => by
    unfold ranges_each_3
    rw [of1_l]
    cases h : (ofF y).isEmpty with
    | true =>
      rw [flat_cons_emp h]
      exact each3_eq l
    | false =>
      right
      simp only [cond_false]
      rw [each3a_eq, List.flatMap_cons]
      refine ⟨fun k => ?_, rfl⟩
      rw [(List.append_eq_nil_iff.1 k).1] at h; cases h
theorem of_len : ∀ l : List S_Span, (l.flatMap ofF).length ≤ l.length
  | [] => Nat.le_refl _
  | y :: l => by
    rw [List.flatMap_cons, List.length_append, List.length_cons]
    have := of_len l
    have : (ofF y).length ≤ 1 := some_len
    omega
theorem Of_gr {l : GS S_Span} (hl : l.l.length ≤ 1099511627776) : GR (l.l.flatMap ofF) (ranges_Of l) := by
  unfold ranges_Of
  have := of_len l.l
  rcases each3_eq l.l with ⟨k1, k2⟩ | ⟨k1, k2⟩ <;> rw [k2] <;> dsimp only
  · rw [k1]; exact GR_nil
  · generalize l.l.flatMap ofF = q at *
    rcases ranges_gathered_4_at (l := q) k1 (by omega) with ⟨g1, g2⟩ | ⟨g1, g2⟩
    · rw [g2]; exact GR_end g1
    · refine .inr ⟨.inl g1, ?_⟩
      revert g2
      cases ranges_gathered_4 (srtG gcmp q) 0 <;> intro g2 <;> first | rfl | cases g2
end Go.VS

