/- Nothing of a statement is proved in this text alone: it is part 5 of the proof's own tools, an evaluator of the code over deep values, its soundness, and what it makes of this seat's functions. Conditions: none beyond the statement's own. -/
import Derived.Test.YtnifoeahomkdlaaVsOFq4
import Derived.Test.YtnifoeahomkdlaaRows
import Derived.WalkKit
import Derived.ProofKit
import Derived.Deep.DeepHandedRow
import Derived.Lib.LaidTab
set_option linter.unusedSimpArgs false
set_option linter.unusedVariables false
/-
  Fronts, plainly: the reference's way; all fronts. (A text of this claim's own; nothing of it is trusted.)
-/
namespace Go.VS
open Go
/-- What the reference does with the next pair. -/
def stp (v : List Arr2_Int) (p : Arr2_Int) : List Arr2_Int :=
  bif decide ((v.getD (w64 (((v.length : Nat) : Int) - 1)).toNat default).x1 ≥ p.x1) then v
  else bif ((v.getD (w64 (((v.length : Nat) : Int) - 1)).toNat default).x0 == p.x0) then v.set (w64 (((v.length : Nat) : Int) - 1)).toNat p
  else v ++ [p]
theorem stp_app {f : List Arr2_Int → LR_r_next_4} {v : List Arr2_Int} {p : Arr2_Int} : f (stp v p) = bif decide ((v.getD (w64 (((v.length : Nat) : Int) - 1)).toNat default).x1 ≥ p.x1) then f v
  else bif ((v.getD (w64 (((v.length : Nat) : Int) - 1)).toNat default).x0 == p.x0) then f (v.set (w64 (((v.length : Nat) : Int) - 1)).toNat p) else f (v ++ [p]) := by
  unfold stp
  cases decide ((v.getD (w64 (((v.length : Nat) : Int) - 1)).toNat default).x1 ≥ p.x1) with
  | true => rfl
  | false => cases ((v.getD (w64 (((v.length : Nat) : Int) - 1)).toNat default).x0 == p.x0) <;> rfl
def shf (x : S_Item) (p : Arr2_Int) : Arr2_Int := ⟨w64 (p.x0 + x.cost), w64 (p.x1 + r_Gain x)⟩
theorem next_step {front : GS Arr2_Int} {x : S_Item} {n : Nat} {v : List Arr2_Int} {i k : Int} (hv : 1 ≤ v.length) : zB front x (n + 1) v i k =
    bif decide (i < ((front.l.length : Nat) : Int)) then
      bif (k == ((front.l.length : Nat) : Int)) then zB front x n (stp v (front.at i)) (w64 (i + 1)) k
      else bif decide ((front.at i).x0 ≤ w64 ((front.at k).x0 + x.cost)) then zB front x n (stp v (front.at i)) (w64 (i + 1)) k
      else zB front x n (stp v (shf x (front.at k))) i (w64 (k + 1))
    else bif decide (k < ((front.l.length : Nat) : Int)) then zB front x n (stp v (shf x (front.at k))) i (w64 (k + 1))
    else .x0 v i k := by
  have hlen : decide (((v.length : Nat) : Int) > 0) = true := decide_eq_true (by omega)
  rw [stp_app (f := fun z => zB front x n z (w64 (i + 1)) k), stp_app (f := fun z => zB front x n z i (w64 (k + 1)))]
  conv => lhs; unfold zB
  simp only [hlen, cond_true, shf]
  cases h1 : decide (i < ((front.l.length : Nat) : Int)) with
  | true => rfl
  | false =>
    simp only [cond_false]
    cases h2 : decide (k < ((front.l.length : Nat) : Int)) with
    | true =>
      have h3 : (k == ((front.l.length : Nat) : Int)) = false := by
        have := of_decide_eq_true h2
        exact beq_false_of_ne (by omega)
      simp only [h3, cond_true, cond_false]
      rfl
    | false => rfl
theorem IsFr.congr {L L' v : List Arr2_Int} (h : IsFr L v) (hL : ∀ p, p ∈ L ↔ p ∈ L') : IsFr L' v :=
  ⟨h.inc, fun p hp => (hL p).1 (h.of p hp), fun p hp => h.dom p ((hL p).2 hp)⟩
theorem last_set {i : List Arr2_Int} {y p : Arr2_Int} (hl : (i ++ [y]).length ≤ 1099511627776) : (i ++ [y]).set (w64 ((((i ++ [y]).length : Nat) : Int) - 1)).toNat p = i ++ [p] := by
  rw [w64_eq (by omega) (by omega)]
  have : ((((i ++ [y]).length : Nat) : Int) - 1).toNat = i.length := by simp
  rw [this, List.set_append_right _ _ (Nat.le_refl _)]
  simp
theorem stp_is {L v : List Arr2_Int} {p : Arr2_Int} (h : IsFr L v) (hL : L ≠ []) (hp : ∀ d ∈ L, d.x0 ≤ p.x0) (hl : v.length ≤ 1099511627776) : IsFr (L ++ [p]) (stp v p) ∧ 1 ≤ (stp v p).length ∧ (stp v p).length ≤ v.length + 1 := by
  obtain ⟨i, y, rfl⟩ := h.ne hL
  have hy := hp y (h.of y (by simp))
  unfold stp
  rw [last_at hl, last_set hl, Bool.cond_eq_ite]
  split
  · rename_i hc
    simp only [decide_eq_true_eq] at hc
    exact ⟨h.skip hy (by omega), by simp, by simp⟩
  · rename_i hc
    simp only [decide_eq_true_eq] at hc
    rw [Bool.cond_eq_ite]
    split
    · rename_i hd
      simp only [beq_iff_eq] at hd
      exact ⟨h.put hd (by omega), by simp, by simp⟩
    · rename_i hd
      simp only [beq_iff_eq] at hd
      exact ⟨h.app (by omega) (by omega), by simp, by simp⟩
/-- What has been taken. -/
def tk (q : List Arr2_Int) (x : S_Item) (i k : Nat) : List Arr2_Int := q.take i ++ (q.take k).map (shf x)
theorem tk_i {q : List Arr2_Int} {x : S_Item} {i k : Nat} (h : i < q.length) (p : Arr2_Int) : p ∈ tk q x i k ++ [q.getD i default] ↔ p ∈ tk q x (i + 1) k := by
  unfold tk
  rw [List.take_add_one, List.getElem?_eq_getElem h, List.getD_eq_getElem?_getD, List.getElem?_eq_getElem h]
  simp only [List.mem_append, Option.toList, Option.getD]
  constructor
  · rintro ((h | h) | h)
    · exact .inl (.inl h)
    · exact .inr h
    · exact .inl (.inr h)
  · rintro ((h | h) | h)
    · exact .inl (.inl h)
    · exact .inr h
    · exact .inl (.inr h)
theorem tk_k {q : List Arr2_Int} {x : S_Item} {i k : Nat} (h : k < q.length) (p : Arr2_Int) : p ∈ tk q x i k ++ [shf x (q.getD k default)] ↔ p ∈ tk q x i (k + 1) := by
  unfold tk
  rw [List.take_add_one, List.getElem?_eq_getElem h, List.getD_eq_getElem?_getD, List.getElem?_eq_getElem h]
  simp only [List.mem_append, Option.toList, Option.getD, List.map_append, List.map_cons, List.map_nil]
  constructor
  · rintro ((h | h) | h)
    · exact .inl h
    · exact .inr (.inl h)
    · exact .inr (.inr h)
  · rintro (h | (h | h))
    · exact .inl (.inl h)
    · exact .inl (.inr h)
    · exact .inr h
/-- Nothing that has been taken is behind what is left. -/
structure Ah (q : List Arr2_Int) (x : S_Item) (i k : Nat) : Prop where
  hi : ∀ d ∈ tk q x i k, ∀ j, i ≤ j → j < q.length → d.x0 ≤ (q.getD j default).x0
  hk : ∀ d ∈ tk q x i k, ∀ j, k ≤ j → j < q.length → d.x0 ≤ (shf x (q.getD j default)).x0
theorem next_walk {front : GS Arr2_Int} {x : S_Item} (hN : front.l.length ≤ 4096) (hi : ∀ a b, a ≤ b → b < front.l.length → (front.l.getD a default).x0 ≤ (front.l.getD b default).x0)
    (hs : ∀ a b, a ≤ b → b < front.l.length → (shf x (front.l.getD a default)).x0 ≤ (shf x (front.l.getD b default)).x0) :
    ∀ (n : Nat) (v : List Arr2_Int) (i k : Nat), i ≤ front.l.length → k ≤ front.l.length → 2 * front.l.length < n + i + k → IsFr (tk front.l x i k) v → 1 ≤ i + k → 1 ≤ v.length → v.length ≤ i + k → Ah front.l x i k →
      ∃ w, zB front x n v (i : Int) (k : Int) = .x0 w front.l.length front.l.length ∧ IsFr (tk front.l x front.l.length front.l.length) w
  | 0, v, i, k, h1, h2, h3, _, _, _, _, _ => by omega
  | n + 1, v, i, k, h1, h2, h3, hf, h4, h5, h6, ha => by
    rw [next_step h5]
    have hne : ∀ a b, a ≤ front.l.length → b ≤ front.l.length → 1 ≤ a + b → tk front.l x a b ≠ [] := fun a b ha hb hab => by
      intro h
      have := congrArg List.length h
      simp only [tk, List.length_append, List.length_map, List.length_take, List.length_nil] at this
      omega
    have goI : i < front.l.length → (∀ j, k ≤ j → j < front.l.length → (front.l.getD i default).x0 ≤ (shf x (front.l.getD j default)).x0) → ∃ w, zB front x n (stp v (front.at (i : Int))) (w64 ((i : Int) + 1)) (k : Int) = .x0 w front.l.length front.l.length ∧ IsFr (tk front.l x front.l.length front.l.length) w := fun hlt hk => by
      rw [w64_eq (by omega) (by omega), show ((i : Int) + 1) = ((i + 1 : Nat) : Int) from by omega]
      have e : front.at (i : Int) = front.l.getD i default := rfl
      rw [e]
      obtain ⟨q1, q2, q3⟩ := stp_is hf (hne i k h1 h2 h4) (p := front.l.getD i default) (fun d hd => ha.hi d hd i (Nat.le_refl _) hlt) (by omega)
      refine next_walk hN hi hs n _ (i + 1) k (by omega) h2 (by omega) (q1.congr (tk_i hlt)) (by omega) q2 (by omega) ⟨fun d hd j hj hjl => ?_, fun d hd j hj hjl => ?_⟩
      · rcases List.mem_append.1 ((tk_i hlt d).2 hd) with hd | hd
        · exact ha.hi d hd j (by omega) hjl
        · rw [List.mem_singleton.1 hd]; exact hi i j (by omega) hjl
      · rcases List.mem_append.1 ((tk_i hlt d).2 hd) with hd | hd
        · exact ha.hk d hd j hj hjl
        · rw [List.mem_singleton.1 hd]; exact hk j hj hjl
    have goK : k < front.l.length → (∀ j, i ≤ j → j < front.l.length → (shf x (front.l.getD k default)).x0 ≤ (front.l.getD j default).x0) → ∃ w, zB front x n (stp v (shf x (front.at (k : Int)))) (i : Int) (w64 ((k : Int) + 1)) = .x0 w front.l.length front.l.length ∧ IsFr (tk front.l x front.l.length front.l.length) w := fun hlt hk => by
      rw [w64_eq (by omega) (by omega), show ((k : Int) + 1) = ((k + 1 : Nat) : Int) from by omega]
      have e : front.at (k : Int) = front.l.getD k default := rfl
      rw [e]
      obtain ⟨q1, q2, q3⟩ := stp_is hf (hne i k h1 h2 h4) (p := shf x (front.l.getD k default)) (fun d hd => ha.hk d hd k (Nat.le_refl _) hlt) (by omega)
      refine next_walk hN hi hs n _ i (k + 1) h1 (by omega) (by omega) (q1.congr (tk_k hlt)) (by omega) q2 (by omega) ⟨fun d hd j hj hjl => ?_, fun d hd j hj hjl => ?_⟩
      · rcases List.mem_append.1 ((tk_k hlt d).2 hd) with hd | hd
        · exact ha.hi d hd j hj hjl
        · rw [List.mem_singleton.1 hd]; exact hk j hj hjl
      · rcases List.mem_append.1 ((tk_k hlt d).2 hd) with hd | hd
        · exact ha.hk d hd j (by omega) hjl
        · rw [List.mem_singleton.1 hd]; exact hs k j (by omega) hjl
    cases c1 : decide ((i : Int) < ((front.l.length : Nat) : Int)) with
    | true =>
      have d1 := of_decide_eq_true c1
      have hlt : i < front.l.length := by omega
      simp only [cond_true]
      cases c2 : ((k : Int) == ((front.l.length : Nat) : Int)) with
      | true =>
        have d2 := eq_of_beq c2
        simp only [cond_true]
        exact goI hlt fun j hj hjl => by omega
      | false =>
        have d2 := ne_of_beq_false c2
        simp only [cond_false]
        have hkl : k < front.l.length := by omega
        cases c3 : decide ((front.at (i : Int)).x0 ≤ w64 ((front.at (k : Int)).x0 + x.cost)) with
        | true =>
          have d3 : (front.l.getD i default).x0 ≤ (shf x (front.l.getD k default)).x0 := of_decide_eq_true c3
          simp only [cond_true]
          exact goI hlt fun j hj hjl => Int.le_trans d3 (hs k j hj hjl)
        | false =>
          have d3 : ¬ (front.l.getD i default).x0 ≤ (shf x (front.l.getD k default)).x0 := of_decide_eq_false c3
          simp only [cond_false]
          exact goK hkl fun j hj hjl => by
            have := hi i j hj hjl
            omega
    | false =>
      have d1 := of_decide_eq_false c1
      simp only [cond_false]
      cases c2 : decide ((k : Int) < ((front.l.length : Nat) : Int)) with
      | true =>
        have d2 := of_decide_eq_true c2
        simp only [cond_true]
        exact goK (by omega) fun j hj hjl => by omega
      | false =>
        have d2 := of_decide_eq_false c2
        simp only [cond_false]
        obtain rfl : i = front.l.length := by omega
        obtain rfl : k = front.l.length := by omega
        exact ⟨v, rfl, hf⟩
end Go.VS

/-
  Fronts, plainly: all fronts are the reference's. (A text of this claim's own; nothing of it is trusted.)
-/
namespace Go.VS
open Go
theorem getD_of_lt {α : Type} [Inhabited α] {l : List α} {i : Nat} (h : i < l.length) : l.getD i default = l[i] := by
  rw [List.getD_eq_getElem?_getD, List.getElem?_eq_getElem h]; rfl
theorem tk10 {q : List Arr2_Int} {x : S_Item} (h : 1 ≤ q.length) : tk q x 1 0 = [q.getD 0 default] := by
  cases q with
  | nil => simp at h
  | cons y l => rfl
theorem tk01 {q : List Arr2_Int} {x : S_Item} (h : 1 ≤ q.length) : tk q x 0 1 = [shf x (q.getD 0 default)] := by
  cases q with
  | nil => simp at h
  | cons y l => rfl
theorem next_is {front : GS Arr2_Int} {x : S_Item} (hN : front.l.length ≤ 4096) (hn : 1 ≤ front.l.length) (hi : ∀ a b, a ≤ b → b < front.l.length → (front.l.getD a default).x0 ≤ (front.l.getD b default).x0)
    (hs : ∀ a b, a ≤ b → b < front.l.length → (shf x (front.l.getD a default)).x0 ≤ (shf x (front.l.getD b default)).x0) :
    ∃ w, r_next front x = GS.some w ∧ IsFr (front.l ++ front.l.map (shf x)) w := by
  have key : ∃ w, r_next_4 front x (2 * front.l.length + 1) = .x0 w front.l.length front.l.length ∧ IsFr (tk front.l x front.l.length front.l.length) w := by
    have c1 : decide (0 < ((front.l.length : Nat) : Int)) = true := decide_eq_true (by omega)
    have c2 : (0 == ((front.l.length : Nat) : Int)) = false := beq_false_of_ne (by omega)
    have e0 : front.at 0 = front.l.getD 0 default := rfl
    simp only [r_next_4, c1, c2, cond_true, cond_false, e0]
    have t1 := tk10 (x := x) hn
    have t2 := tk01 (x := x) hn
    rw [Bool.cond_eq_ite]
    split
    · rename_i c3
      have c3 : (front.l.getD 0 default).x0 ≤ (shf x (front.l.getD 0 default)).x0 := of_decide_eq_true c3
      refine next_walk hN hi hs _ _ 1 0 (by omega) (by omega) (by omega) (by rw [t1]; exact isFr_one _) (by omega) (by simp) (by simp) ⟨fun d hd j hj hjl => ?_, fun d hd j hj hjl => ?_⟩
      · rw [t1] at hd; rw [List.mem_singleton.1 hd]; exact hi 0 j (by omega) hjl
      · rw [t1] at hd; rw [List.mem_singleton.1 hd]; exact Int.le_trans c3 (hs 0 j (by omega) hjl)
    · rename_i c3
      have c3 : ¬ (front.l.getD 0 default).x0 ≤ (shf x (front.l.getD 0 default)).x0 := fun h => c3 (decide_eq_true h)
      refine next_walk hN hi hs _ _ 0 1 (by omega) (by omega) (by omega) (by rw [t2]; exact isFr_one _) (by omega) (by simp) (by simp) ⟨fun d hd j hj hjl => ?_, fun d hd j hj hjl => ?_⟩
      · rw [t2] at hd; rw [List.mem_singleton.1 hd]
        have := hi 0 j (by omega) hjl
        omega
      · rw [t2] at hd; rw [List.mem_singleton.1 hd]; exact hs 0 j (by omega) hjl
  obtain ⟨w, h1, h2⟩ := key
  refine ⟨w, ?_, ?_⟩
  · unfold r_next; rw [h1]
  · unfold tk at h2
    rwa [List.take_length] at h2
theorem gain_same (x : S_Item) : zn x = r_Gain x := by
  unfold zn r_Gain
  rw [imax_eq, imax_eq, Int.max_comm]
/-- The next front. -/
def nf (q : List Arr2_Int) (x : S_Item) : List Arr2_Int := zP (q ++ q.map (shf x))
def frs : List S_Item → List Arr2_Int → List (List Arr2_Int)
  | [], _ => []
  | x :: l, q => nf q x :: frs l (nf q x)
theorem frs_len : ∀ (l : List S_Item) (q : List Arr2_Int), (frs l q).length = l.length
  | [], _ => rfl
  | x :: l, q => by simp [frs, frs_len l]
theorem fr7 (x : S_Item) : ∀ (l v : List Arr2_Int), orders_fronts_7 x l v = .x0 (v ++ l.map (shf x))
  | [], v => by simp [orders_fronts_7]
  | p :: l, v => by
    unfold orders_fronts_7
    rw [fr7 x l, gain_same]
    simp [shf]
theorem getD_snoc {α : Type} [Inhabited α] {l : List α} {x : α} {n : Nat} (h : l.length = n) : (l ++ [x]).getD n default = x := by
  subst h
  rw [List.getD_eq_getElem?_getD, List.getElem?_append_right (Nat.le_refl _)]; simp
theorem fr3a : ∀ (l : List S_Item) (i : Nat) (va : List (GS Arr2_Int)), va.length = i + 1 → orders_fronts_3a l i va = .x0 (va ++ (frs l (va.getD i default).l).map GS.some)
  | [], i, va, _ => by simp [orders_fronts_3a, frs]
  | x :: l, i, va, h => by
    unfold orders_fronts_3a
    rw [fr7]
    simp only []
    rw [fr3a l (i + 1) _ (by simp [h]), getD_snoc h]
    simp [frs, nf, GS.some_l]
/-- What a front is good for: how far its numbers go. -/
structure Good (i : Nat) (q : List Arr2_Int) : Prop where
  ne : 1 ≤ q.length
  le : q.length ≤ 2 ^ i
  inc : q.Pairwise fun a b => a.x0 < b.x0 ∧ a.x1 < b.x1
  bd : ∀ p ∈ q, 0 ≤ p.x0 ∧ p.x0 ≤ 10000 * (i : Int) ∧ 0 ≤ p.x1 ∧ p.x1 ≤ 1073741824 * (i : Int)
theorem good0 : Good 0 [⟨0, 0⟩] := ⟨by simp, by simp, by simp, fun p hp => by rw [List.mem_singleton.1 hp]; simp⟩
theorem rgain_bd {x : S_Item} (h : OkItem x) : 0 ≤ r_Gain x ∧ r_Gain x ≤ 1073741824 := by
  rw [← gain_same, gain_eq h]
  have := gn_bd h
  obtain ⟨a, b, c, _⟩ := h
  omega
theorem shf_eq {i : Nat} {q : List Arr2_Int} {x : S_Item} (h : Good i q) (hi : i ≤ 12) (hx : OkItem x) {p : Arr2_Int} (hp : p ∈ q) : shf x p = ⟨p.x0 + x.cost, p.x1 + r_Gain x⟩ := by
  have hb := h.bd p hp
  have hg := rgain_bd hx
  obtain ⟨_, _, _, c0, c1, _⟩ := hx
  unfold shf
  rw [w64_eq (by omega) (by omega), w64_eq (by omega) (by omega)]
theorem Good.hi {i : Nat} {q : List Arr2_Int} (h : Good i q) : ∀ a b, a ≤ b → b < q.length → (q.getD a default).x0 ≤ (q.getD b default).x0 := by
  intro a b hab hb
  rw [getD_of_lt hb, getD_of_lt (Nat.lt_of_le_of_lt hab hb)]
  rcases Nat.lt_or_eq_of_le hab with hl | rfl
  · exact Int.le_of_lt (List.pairwise_iff_getElem.1 h.inc a b (Nat.lt_of_le_of_lt hab hb) hb hl).1
  · exact Int.le_refl _
theorem Good.hs {i : Nat} {q : List Arr2_Int} {x : S_Item} (h : Good i q) (hi : i ≤ 12) (hx : OkItem x) : ∀ a b, a ≤ b → b < q.length → (shf x (q.getD a default)).x0 ≤ (shf x (q.getD b default)).x0 := by
  intro a b hab hb
  have h1 := h.hi a b hab hb
  have ha := Nat.lt_of_le_of_lt hab hb
  rw [shf_eq h hi hx (p := q.getD a default) (by rw [getD_of_lt ha]; exact List.getElem_mem ha), shf_eq h hi hx (p := q.getD b default) (by rw [getD_of_lt hb]; exact List.getElem_mem hb)]
  show _ + _ ≤ _ + _
  omega
theorem nf_is {i : Nat} {q : List Arr2_Int} {x : S_Item} (h : Good i q) (hi : i < 12) : IsFr (q ++ q.map (shf x)) (nf q x) := by
  have h1 := h.ne
  have h2 := h.le
  have h3 : 2 ^ i ≤ 4096 := pow12 hi
  exact front_is (by simp; omega) (by simp; omega)
theorem nf_len {i : Nat} {q : List Arr2_Int} {x : S_Item} (h : Good i q) : 1 ≤ (nf q x).length ∧ (nf q x).length ≤ 2 ^ (i + 1) := by
  have h1 := h.ne
  have h2 := h.le
  have := z6 (l := q ++ q.map (shf x)) (by simp; omega)
  rw [Nat.pow_succ]
  unfold nf
  simp only [List.length_append, List.length_map] at this
  omega
theorem Good.next {i : Nat} {q : List Arr2_Int} {x : S_Item} (h : Good i q) (hi : i < 12) (hx : OkItem x) : Good (i + 1) (nf q x) where
  ne := (nf_len h).1
  le := (nf_len h).2
  inc := (nf_is h hi).inc
  bd := fun p hp => by
    have hg := rgain_bd hx
    rcases List.mem_append.1 ((nf_is h hi).of p hp) with hq | hq
    · have := h.bd p hq; omega
    · obtain ⟨r, hr, rfl⟩ := List.mem_map.1 hq
      have := h.bd r hr
      rw [shf_eq h (by omega) hx hr]
      obtain ⟨_, _, _, c0, c1, _⟩ := hx
      show 0 ≤ r.x0 + x.cost ∧ r.x0 + x.cost ≤ _ ∧ 0 ≤ r.x1 + r_Gain x ∧ r.x1 + r_Gain x ≤ _
      omega
theorem next_eq {i : Nat} {s : GS Arr2_Int} {x : S_Item} (h : Good i s.l) (hi : i < 12) (hx : OkItem x) : r_next s x = GS.some (nf s.l x) := by
  obtain ⟨w, h1, h2⟩ := next_is (front := s) (x := x) (Nat.le_trans h.le (pow12 hi)) h.ne h.hi (h.hs (by omega) hx)
  rw [h1, h2.uniq (nf_is h hi) fun p => Iff.rfl]
theorem rf5a : ∀ (l : List S_Item) (i : Nat) (va : List (GS Arr2_Int)), va.length = i + 1 → Good i (va.getD i default).l → i + l.length ≤ 12 → (∀ x ∈ l, OkItem x) → r_Fronts_5a l i va = .x0 (va ++ (frs l (va.getD i default).l).map GS.some)
  | [], i, va, _, _, _, _ => by simp [r_Fronts_5a, frs]
  | x :: l, i, va, h, hg, hl, ho => by
    simp only [List.length_cons] at hl
    unfold r_Fronts_5a
    rw [next_eq hg (by omega) (ho x (by simp))]
    rw [rf5a l (i + 1) _ (by simp [h]) (by rw [getD_snoc h]; exact hg.next (by omega) (ho x (by simp))) (by omega) (fun y hy => ho y (List.mem_cons_of_mem _ hy)), getD_snoc h]
    simp [frs, GS.some_l]
/-- All fronts of an estate. -/
def frAll (e : S_Estate) : List (List Arr2_Int) := [⟨0, 0⟩] :: frs e.items.l [⟨0, 0⟩]
theorem fronts_eq (e : S_Estate) : orders_fronts e = GS.some ((frAll e).map GS.some) := by
  unfold orders_fronts frAll
  cases hl : e.items.l with
  | nil => rfl
  | cons x l =>
    have h1 : orders_fronts_3 (x :: l) 0 = orders_fronts_3a l 1 [GS.some [⟨0, 0⟩], GS.some (nf [⟨0, 0⟩] x)] := by
      simp only [orders_fronts_3, gain_same]
      rfl
    rw [h1, fr3a l 1 _ rfl]
    rfl
theorem rfronts_eq {e : S_Estate} (h : V e) : r_Fronts e = (GS.some ((frAll e).map GS.some), 0) := by
  unfold r_Fronts frAll
  rw [valid_iff.2 h, cond_true]
  have hit := h.it
  have hn := h.n2
  cases hl : e.items.l with
  | nil => rfl
  | cons x l =>
    rw [hl] at hit hn
    simp only [List.length_cons] at hn
    have hx := hit x (by simp)
    have h1 : r_Fronts_5 (x :: l) 0 = r_Fronts_5a l 1 [GS.some [⟨0, 0⟩], GS.some (nf [⟨0, 0⟩] x)] := by
      simp only [r_Fronts_5]
      rw [next_eq (s := GS.some [⟨0, 0⟩]) (i := 0) good0 (by omega) hx]
      rfl
    have h2 := rf5a l 1 [GS.some [⟨0, 0⟩], GS.some (nf [⟨0, 0⟩] x)] rfl (good0.next (by omega) hx) (by omega) (fun y hy => hit y (List.mem_cons_of_mem _ hy))
    rw [h1, h2]
    rfl
theorem bothFronts (e : S_Estate) : zg e = r_Fronts e := by
  unfold zg
  rw [check_valid, fronts_eq]
  cases hv : r_Valid e with
  | true => rw [rfronts_eq (valid_iff.1 hv)]; rfl
  | false =>
    unfold r_Fronts
    rw [hv]; rfl
/-! ### comparing -/
theorem at_get {α : Type} [Inhabited α] {s : GS α} {i : Nat} : s.at (i : Int) = s.l.getD i default := rfl
theorem sp4_eq (b : GS Arr2_Int) : ∀ (l : List Arr2_Int) (i : Nat), (match r_SamePairs_4 b l i with | .x0 => true | .x1 _ _ => false) = (match eqPairs_4 b l i with | .x0 => true | .x1 _ _ => false)
  | [], i => rfl
  | x :: l, i => by
    unfold r_SamePairs_4 eqPairs_4
    cases (!((x.x0 == ((GS.at b ((i : Nat) : Int)).x0)) && ((x.x1 == ((GS.at b ((i : Nat) : Int)).x1)) && true))) with
    | true => rfl
    | false => exact sp4_eq b l (i + 1)
theorem sp_eq (a b : GS Arr2_Int) : r_SamePairs a b = eqPairs a b := by
  unfold r_SamePairs eqPairs
  rw [Bool.cond_eq_ite, Bool.cond_eq_ite]
  split
  · rfl
  · exact sp4_eq b a.l 0
theorem sp4_refl (s : GS Arr2_Int) : ∀ (l : List Arr2_Int) (i : Nat), s.l.drop i = l → r_SamePairs_4 s l i = .x0
  | [], i, _ => rfl
  | x :: l, i, h => by
    unfold r_SamePairs_4
    have hx : s.at (i : Int) = x := by
      rw [at_get, List.getD_eq_getElem?_getD, ← List.head?_drop, h]; rfl
    rw [hx]
    simp only [beq_self_eq_true, Bool.and_true, Bool.not_true, cond_false]
    exact sp4_refl s l (i + 1) (by rw [← List.drop_drop, h]; rfl)
theorem sp_refl (s : GS Arr2_Int) : r_SamePairs s s = true := by
  unfold r_SamePairs
  rw [sp4_refl s s.l 0 rfl]; simp
theorem frs_good : ∀ (l : List S_Item) (i : Nat) (q : List Arr2_Int), Good i q → i + l.length ≤ 12 → (∀ x ∈ l, OkItem x) → ∀ r ∈ frs l q, r.length ≤ 4096
  | [], i, q, _, _, _, r, hr => by cases hr
  | x :: l, i, q, h, hl, ho, r, hr => by
    simp only [List.length_cons] at hl
    have hg := h.next (x := x) (by omega) (ho x (by simp))
    rcases List.mem_cons.1 hr with rfl | hr
    · exact Nat.le_trans hg.le (Nat.le_trans (Nat.pow_le_pow_right (by omega) (by omega : i + 1 ≤ 12)) (by decide))
    · exact frs_good l (i + 1) _ hg (by omega) (fun y hy => ho y (List.mem_cons_of_mem _ hy)) r hr
theorem fronts_bd (e : S_Estate) : (zg e).1.l.length ≤ 13 ∧ ∀ r ∈ (zg e).1.l, r.l.length ≤ 9223372036854775807 := by
  rw [bothFronts]
  cases hv : r_Valid e with
  | true =>
    have h := valid_iff.1 hv
    have hn := h.n2
    rw [rfronts_eq h]
    refine ⟨by simp [GS.some_l, frAll, frs_len]; omega, fun r hr => ?_⟩
    obtain ⟨q, hq, rfl⟩ := List.mem_map.1 hr
    rcases List.mem_cons.1 hq with rfl | hq
    · simp [GS.some_l]
    · have := frs_good e.items.l 0 _ good0 (by omega) h.it q hq
      rw [GS.some_l]; omega
  | false =>
    have : r_Fronts e = (GS.nil, 80) := by unfold r_Fronts; rw [hv]; rfl
    rw [this]; exact ⟨by simp [GS.nil], fun r hr => by simp [GS.nil] at hr⟩
end Go.VS

namespace Go.VS
open Go Go.Proofs
set_option maxHeartbeats 0
set_option linter.unusedSimpArgs false
set_option linter.unusedVariables false
noncomputable def lp83_2 : Code := subC [1, 0, 1, 0, 0] (bodyC Try.f83)

inductive LR_idxPairs_2 where
  | x0
  | x1 (i2 : Nat) (x2 : Arr2_Int)
instance : Inhabited LR_idxPairs_2 := ⟨.x0⟩
def idxPairs_2 (v : Arr2_Int) : List Arr2_Int → Nat → LR_idxPairs_2
  | [], i2 => .x0
  | x2 :: rest2, i2 =>
    bif ((v.x0 == x2.x0) && ((v.x1 == x2.x1) && true)) then
      .x1 i2 x2
    else
      idxPairs_2 v rest2 (i2 + 1)
def lr_idxPairs_2 (s : GS Arr2_Int) (v : Arr2_Int) : LR_idxPairs_2 → Exit × St
  | .x0 => ((.exit 0), ⟨19, [(9, B false), (0, .sl s.nl (s.l.map Arr2_Int.D) (zsl s.nl 2) none), (3, .lref 0 0 2 0), (7, I ((s.l.length : Nat) : Int)), (8, I ((s.l.length : Nat) : Int))], [(0, ⟨[.agg [I v.x0, I v.x1]], 2, false⟩)], 1, 0⟩)
  | .x1 i2 x2 => (.ret, ⟨19, [(4, I ((i2 : Nat) : Int)), (17, I ((i2 : Nat) : Int)), (16, B true), (15, .agg [I x2.x0, I x2.x1]), (14, .ptr (.agg [I x2.x0, I x2.x1])), (13, I ((i2 : Nat) : Int)), (12, .sl s.nl (s.l.map Arr2_Int.D) (zsl s.nl 2) none), (11, .agg [I v.x0, I v.x1]), (5, I ((i2 : Nat) : Int)), (10, I ((i2 : Nat) : Int)), (9, B true), (0, .sl s.nl (s.l.map Arr2_Int.D) (zsl s.nl 2) none), (3, .lref 0 0 2 0), (7, I ((s.l.length : Nat) : Int)), (8, I ((i2 : Nat) : Int))], [(0, ⟨[.agg [I v.x0, I v.x1]], 2, false⟩)], 1, 0⟩)
theorem lp_idxPairs_2 (s : GS Arr2_Int) (v : Arr2_Int) : ∀ (rest2 : List Arr2_Int) (i2 : Nat) (hd2 : s.l.drop i2 = rest2) (hi2 : i2 ≤ s.l.length) (hL2 : s.l.length ≤ 9223372036854775807), (lim cfg).loop 83 lp83_2 ⟨19, [(0, .sl s.nl (s.l.map Arr2_Int.D) (zsl s.nl 2) none), (3, .lref 0 0 2 0), (7, I ((s.l.length : Nat) : Int)), (8, I ((i2 : Nat) : Int))], [(0, ⟨[.agg [I v.x0, I v.x1]], 2, false⟩)], 1, 0⟩ = some (lr_idxPairs_2 s v (idxPairs_2 v rest2 i2)) := by
  intro rest2
  induction rest2 with
  | nil =>
    intro i2 hd2 hi2 hL2
    unfold idxPairs_2
    obtain rfl : i2 = s.l.length := nil_eq hd2 hi2
    exact zF [.dec false] (And.intro (lt_no hd2) trivial) (by kernel_rfl)
  | cons x2 rest2 ih =>
    intro i2 hd2 hi2 hL2
    have hlt2 := zw hd2
    unfold idxPairs_2
    cases h2 : ((v.x0 == x2.x0) && ((v.x1 == x2.x1) && true)) with
    | true =>
      exact zF [.dec true, .el (.agg [I x2.x0, I x2.x1]), .dec true] (And.intro h2 (And.intro (el_at (s := s) (f := Arr2_Int.D) (k := 2) hd2) (And.intro (lt_at hd2) trivial))) (by kernel_rfl)
    | false =>
      exact po_turn [.dec true, .el (.agg [I x2.x0, I x2.x1]), .dec false, .rw 18 (I ((i2 + 1 : Nat) : Int))] (And.intro (inc_rw (i := i2) (by have := zw hd2; omega)) (And.intro h2 (And.intro (el_at (s := s) (f := Arr2_Int.D) (k := 2) hd2) (And.intro (lt_at hd2) trivial)))) (ih (i2 + 1) (zH hd2) (zw hd2) (by first | assumption | omega)) (by kernel_rfl)

def idxPairs (s : GS Arr2_Int) (v : Arr2_Int) : Int :=
  match idxPairs_2 v s.l 0 with
  | .x0 =>
    (-1)
  | .x1 i2 x2 =>
    ((i2 : Nat) : Int)

def sd30162 (s : GS Arr2_Int) (v : Arr2_Int) : St := ⟨19, [(9, B false), (0, .sl s.nl (s.l.map Arr2_Int.D) (zsl s.nl 2) none), (3, .lref 0 0 2 0), (7, I ((s.l.length : Nat) : Int)), (8, I ((s.l.length : Nat) : Int))], [(0, ⟨[.agg [I v.x0, I v.x1]], 2, false⟩)], 1, 0⟩

def sd30163 (s : GS Arr2_Int) (v : Arr2_Int) (i2 : Nat) (x2 : Arr2_Int) : St := ⟨19, [(4, I ((i2 : Nat) : Int)), (17, I ((i2 : Nat) : Int)), (16, B true), (15, .agg [I x2.x0, I x2.x1]), (14, .ptr (.agg [I x2.x0, I x2.x1])), (13, I ((i2 : Nat) : Int)), (12, .sl s.nl (s.l.map Arr2_Int.D) (zsl s.nl 2) none), (11, .agg [I v.x0, I v.x1]), (5, I ((i2 : Nat) : Int)), (10, I ((i2 : Nat) : Int)), (9, B true), (0, .sl s.nl (s.l.map Arr2_Int.D) (zsl s.nl 2) none), (3, .lref 0 0 2 0), (7, I ((s.l.length : Nat) : Int)), (8, I ((i2 : Nat) : Int))], [(0, ⟨[.agg [I v.x0, I v.x1]], 2, false⟩)], 1, 0⟩

theorem T_idxPairs (s : GS Arr2_Int) (v : Arr2_Int) (hL_s : s.l.length ≤ 9223372036854775807) : (lim cfg).pure 83 [GS.D Arr2_Int.D 2 s, Arr2_Int.D v] = some (I (idxPairs s v)) := by
  unfold idxPairs
  cases h3 : idxPairs_2 v s.l 0 with
  | x0 =>
    try dsimp only
    exact zu [.rw 7 (I ((s.l.length : Nat) : Int)), .loop (.exit 0) (sd30162 s v)] (And.intro (po_lr (q := lr_idxPairs_2 s v) (lp_idxPairs_2 s v s.l 0 (List.drop_zero) (Nat.zero_le _) (by first | assumption | omega)) h3) (And.intro (zt Arr2_Int.D s) trivial)) (by kernel_rfl)
  | x1 i2 x2 =>
    try dsimp only
    exact zu [.rw 7 (I ((s.l.length : Nat) : Int)), .loop .ret (sd30163 s v i2 x2)] (And.intro (po_lr (q := lr_idxPairs_2 s v) (lp_idxPairs_2 s v s.l 0 (List.drop_zero) (Nat.zero_le _) (by first | assumption | omega)) h3) (And.intro (zt Arr2_Int.D s) trivial)) (by kernel_rfl)

def hasPair (s : GS Arr2_Int) (v : Arr2_Int) : Bool :=
  bif decide ((idxPairs s v) ≥ 0) then
    true
  else
    false

theorem T_hasPair (s : GS Arr2_Int) (v : Arr2_Int) (hL_s : s.l.length ≤ 9223372036854775807) : (lim cfg).pure 43 [GS.D Arr2_Int.D 2 s, Arr2_Int.D v] = some (B (hasPair s v)) := by
  unfold hasPair
  cases h1 : decide ((idxPairs s v) ≥ 0) with
  | true =>
    have g1 := of_decide_eq_true h1
    exact zu [.pure (I (idxPairs s v)), .dec true] (And.intro h1 (And.intro (T_idxPairs s v (by first | assumption | omega)) trivial)) (by kernel_rfl)
  | false =>
    have g1 := of_decide_eq_false h1
    exact zu [.pure (I (idxPairs s v)), .dec false] (And.intro h1 (And.intro (T_idxPairs s v (by first | assumption | omega)) trivial)) (by kernel_rfl)

def doms (q : Arr2_Int) (p : Arr2_Int) : Bool :=
  bif decide (q.x0 ≤ p.x0) then
    bif decide (q.x1 ≥ p.x1) then
      true
    else
      false
  else
    false

theorem T_doms (q : Arr2_Int) (p : Arr2_Int) : (lim cfg).pure 45 [Arr2_Int.D q, .ptr (Arr2_Int.D p)] = some (B (doms q p)) := by
  unfold doms
  cases h1 : decide (q.x0 ≤ p.x0) with
  | true =>
    have g1 := of_decide_eq_true h1
    cases h2 : decide (q.x1 ≥ p.x1) with
    | true =>
      have g2 := of_decide_eq_true h2
      exact zu [.dec true, .dec true] (And.intro h2 (And.intro h1 trivial)) (by kernel_rfl)
    | false =>
      have g2 := of_decide_eq_false h2
      exact zu [.dec true, .dec false] (And.intro h2 (And.intro h1 trivial)) (by kernel_rfl)
  | false =>
    have g1 := of_decide_eq_false h1
    exact zu [.dec false] (And.intro h1 trivial) (by kernel_rfl)

noncomputable def lp24_2 : Code := subC [1, 0, 1, 0, 0] (bodyC Try.f24)

inductive LR_idxDom_2 where
  | x0
  | x1 (i2 : Nat) (x2 : Arr2_Int)
instance : Inhabited LR_idxDom_2 := ⟨.x0⟩
def idxDom_2 (p : Arr2_Int) : List Arr2_Int → Nat → LR_idxDom_2
  | [], i2 => .x0
  | x2 :: rest2, i2 =>
    bif (doms x2 p) then
      .x1 i2 x2
    else
      idxDom_2 p rest2 (i2 + 1)
def lr_idxDom_2 (s : GS Arr2_Int) (p : Arr2_Int) : LR_idxDom_2 → Exit × St
  | .x0 => ((.exit 0), ⟨19, [(9, B false), (0, .sl s.nl (s.l.map Arr2_Int.D) (zsl s.nl 2) none), (1, .fn (.func 45) [] [.ptr (.agg [I p.x0, I p.x1])]), (7, I ((s.l.length : Nat) : Int)), (8, I ((s.l.length : Nat) : Int))], [], 0, 0⟩)
  | .x1 i2 x2 => (.ret, ⟨19, [(4, I ((i2 : Nat) : Int)), (17, I ((i2 : Nat) : Int)), (16, B true), (15, .agg [I x2.x0, I x2.x1]), (14, .ptr (.agg [I x2.x0, I x2.x1])), (13, I ((i2 : Nat) : Int)), (12, .sl s.nl (s.l.map Arr2_Int.D) (zsl s.nl 2) none), (11, .fn (.func 45) [] [.ptr (.agg [I p.x0, I p.x1])]), (5, I ((i2 : Nat) : Int)), (10, I ((i2 : Nat) : Int)), (9, B true), (0, .sl s.nl (s.l.map Arr2_Int.D) (zsl s.nl 2) none), (1, .fn (.func 45) [] [.ptr (.agg [I p.x0, I p.x1])]), (7, I ((s.l.length : Nat) : Int)), (8, I ((i2 : Nat) : Int))], [], 0, 0⟩)
theorem lp_idxDom_2 (s : GS Arr2_Int) (p : Arr2_Int) : ∀ (rest2 : List Arr2_Int) (i2 : Nat) (hd2 : s.l.drop i2 = rest2) (hi2 : i2 ≤ s.l.length) (hL2 : s.l.length ≤ 9223372036854775807), (lim cfg).loop 24 lp24_2 ⟨19, [(0, .sl s.nl (s.l.map Arr2_Int.D) (zsl s.nl 2) none), (1, .fn (.func 45) [] [.ptr (.agg [I p.x0, I p.x1])]), (7, I ((s.l.length : Nat) : Int)), (8, I ((i2 : Nat) : Int))], [], 0, 0⟩ = some (lr_idxDom_2 s p (idxDom_2 p rest2 i2)) := by
  intro rest2
  induction rest2 with
  | nil =>
    intro i2 hd2 hi2 hL2
    unfold idxDom_2
    obtain rfl : i2 = s.l.length := nil_eq hd2 hi2
    exact zF [.dec false] (And.intro (lt_no hd2) trivial) (by kernel_rfl)
  | cons x2 rest2 ih =>
    intro i2 hd2 hi2 hL2
    have hlt2 := zw hd2
    unfold idxDom_2
    cases h2 : (doms x2 p) with
    | true =>
      exact zF [.dec true, .el (.agg [I x2.x0, I x2.x1]), .pure (B (doms x2 p)), .dec true] (And.intro h2 (And.intro (T_doms x2 p) (And.intro (el_at (s := s) (f := Arr2_Int.D) (k := 2) hd2) (And.intro (lt_at hd2) trivial)))) (by kernel_rfl)
    | false =>
      exact po_turn [.dec true, .el (.agg [I x2.x0, I x2.x1]), .pure (B (doms x2 p)), .dec false, .rw 18 (I ((i2 + 1 : Nat) : Int))] (And.intro (inc_rw (i := i2) (by have := zw hd2; omega)) (And.intro h2 (And.intro (T_doms x2 p) (And.intro (el_at (s := s) (f := Arr2_Int.D) (k := 2) hd2) (And.intro (lt_at hd2) trivial))))) (ih (i2 + 1) (zH hd2) (zw hd2) (by first | assumption | omega)) (by kernel_rfl)

def idxDom (s : GS Arr2_Int) (p : Arr2_Int) : Int :=
  match idxDom_2 p s.l 0 with
  | .x0 =>
    (-1)
  | .x1 i2 x2 =>
    ((i2 : Nat) : Int)

def sd30164 (s : GS Arr2_Int) (p : Arr2_Int) : St := ⟨19, [(9, B false), (0, .sl s.nl (s.l.map Arr2_Int.D) (zsl s.nl 2) none), (1, .fn (.func 45) [] [.ptr (.agg [I p.x0, I p.x1])]), (7, I ((s.l.length : Nat) : Int)), (8, I ((s.l.length : Nat) : Int))], [], 0, 0⟩

def sd30165 (s : GS Arr2_Int) (p : Arr2_Int) (i2 : Nat) (x2 : Arr2_Int) : St := ⟨19, [(4, I ((i2 : Nat) : Int)), (17, I ((i2 : Nat) : Int)), (16, B true), (15, .agg [I x2.x0, I x2.x1]), (14, .ptr (.agg [I x2.x0, I x2.x1])), (13, I ((i2 : Nat) : Int)), (12, .sl s.nl (s.l.map Arr2_Int.D) (zsl s.nl 2) none), (11, .fn (.func 45) [] [.ptr (.agg [I p.x0, I p.x1])]), (5, I ((i2 : Nat) : Int)), (10, I ((i2 : Nat) : Int)), (9, B true), (0, .sl s.nl (s.l.map Arr2_Int.D) (zsl s.nl 2) none), (1, .fn (.func 45) [] [.ptr (.agg [I p.x0, I p.x1])]), (7, I ((s.l.length : Nat) : Int)), (8, I ((i2 : Nat) : Int))], [], 0, 0⟩

theorem T_idxDom (s : GS Arr2_Int) (p : Arr2_Int) (hL_s : s.l.length ≤ 9223372036854775807) : (lim cfg).pure 24 [GS.D Arr2_Int.D 2 s, .fn (.func 45) [] [.ptr (Arr2_Int.D p)]] = some (I (idxDom s p)) := by
  unfold idxDom
  cases h3 : idxDom_2 p s.l 0 with
  | x0 =>
    try dsimp only
    exact zu [.rw 7 (I ((s.l.length : Nat) : Int)), .loop (.exit 0) (sd30164 s p)] (And.intro (po_lr (q := lr_idxDom_2 s p) (lp_idxDom_2 s p s.l 0 (List.drop_zero) (Nat.zero_le _) (by first | assumption | omega)) h3) (And.intro (zt Arr2_Int.D s) trivial)) (by kernel_rfl)
  | x1 i2 x2 =>
    try dsimp only
    exact zu [.rw 7 (I ((s.l.length : Nat) : Int)), .loop .ret (sd30165 s p i2 x2)] (And.intro (po_lr (q := lr_idxDom_2 s p) (lp_idxDom_2 s p s.l 0 (List.drop_zero) (Nat.zero_le _) (by first | assumption | omega)) h3) (And.intro (zt Arr2_Int.D s) trivial)) (by kernel_rfl)

def hasDom (s : GS Arr2_Int) (p : Arr2_Int) : Bool :=
  bif decide ((idxDom s p) ≥ 0) then
    true
  else
    false

theorem T_hasDom (s : GS Arr2_Int) (p : Arr2_Int) (hL_s : s.l.length ≤ 9223372036854775807) : (lim cfg).pure 44 [GS.D Arr2_Int.D 2 s, .fn (.func 45) [] [.ptr (Arr2_Int.D p)]] = some (B (hasDom s p)) := by
  unfold hasDom
  cases h1 : decide ((idxDom s p) ≥ 0) with
  | true =>
    have g1 := of_decide_eq_true h1
    exact zu [.pure (I (idxDom s p)), .dec true] (And.intro h1 (And.intro (T_idxDom s p (by first | assumption | omega)) trivial)) (by kernel_rfl)
  | false =>
    have g1 := of_decide_eq_false h1
    exact zu [.pure (I (idxDom s p)), .dec false] (And.intro h1 (And.intro (T_idxDom s p (by first | assumption | omega)) trivial)) (by kernel_rfl)

theorem frs_ne : ∀ (l : List S_Item) (i : Nat) (q : List Arr2_Int), Good i q → i + l.length ≤ 12 → (∀ x ∈ l, OkItem x) → ∀ r ∈ frs l q, 1 ≤ r.length
  | [], i, q, _, _, _, r, hr => by cases hr
  | x :: l, i, q, h, hl, ho, r, hr => by
    simp only [List.length_cons] at hl
    have hg := h.next (x := x) (by omega) (ho x (by simp))
    rcases List.mem_cons.1 hr with rfl | hr
    · exact hg.ne
    · exact frs_ne l (i + 1) _ hg (by omega) (fun y hy => ho y (List.mem_cons_of_mem _ hy)) r hr
theorem fronts_ne {e : S_Estate} (h : r_Valid e = true) : ∀ r ∈ (zg e).1.l, 1 ≤ r.l.length := by
  rw [bothFronts, rfronts_eq (valid_iff.1 h)]
  have hv := valid_iff.1 h
  have hn := hv.n2
  intro r hr
  obtain ⟨q, hq, rfl⟩ := List.mem_map.1 hr
  rcases List.mem_cons.1 hq with rfl | hq
  · simp [GS.some_l]
  · exact frs_ne e.items.l 0 _ good0 (by omega) hv.it q hq
theorem at_mem' {α : Type} [Inhabited α] {s : GS α} {i : Nat} (h : i < s.l.length) : s.at (i : Int) ∈ s.l := by
  rw [at_get, getD_of_lt h]; exact List.getElem_mem h
theorem ne_of_at {q : GS (GS Arr2_Int)} {i : Nat} (h : ∀ r ∈ q.l, 1 ≤ r.l.length) (hi : i < q.l.length) : (q.at (i : Int)).l ≠ [] := fun e => by
  have := h _ (at_mem' hi)
  rw [e] at this
  simp at this

theorem at_bd {α : Type} {s : GS (GS α)} {n : Nat} (h : ∀ r ∈ s.l, r.l.length ≤ n) (i : Int) : (s.at i).l.length ≤ n := by
  show (s.l.getD i.toNat default).l.length ≤ n
  rcases Nat.lt_or_ge i.toNat s.l.length with hi | hi
  · rw [getD_of_lt hi]; exact h _ (List.getElem_mem hi)
  · rw [List.getD_eq_getElem?_getD, List.getElem?_eq_none hi]; exact Nat.zero_le _

noncomputable def lp10_17 : Code := subC [1, 1, 1, 1, 1, 1, 0, 1, 0, 0, 1, 1, 0, 0, 1, 1, 1, 1, 0, 1, 0, 0] (bodyC Try.f10)

def sd30166 (e : S_Estate) (q10_0 : GS (GS Arr2_Int)) (q10_1 : GS Int) (x10 : S_Item) (i17 : Nat) (q17_0 : GS Arr2_Int) (q17_1 : GS Arr2_Int) (q17_2 : Int) (x17 : Arr2_Int) (va17_0 : List Arr2_Int) : St := ⟨164, [(92, I ((i17 + 1 : Nat) : Int)), (113, I ((i17 + 1 : Nat) : Int)), (11, .lsl 4 0 ((va17_0 ++ [x17, (⟨w64 (x17.x0 + x10.cost), w64 (x17.x1 + (GS.at q10_1 q17_2))⟩ : Arr2_Int)]).length) 2 none), (112, .lsl 4 0 ((va17_0 ++ [x17, (⟨w64 (x17.x0 + x10.cost), w64 (x17.x1 + (GS.at q10_1 q17_2))⟩ : Arr2_Int)]).length) 2 none), (111, .lsl 3 0 2 2 (some 2)), (110, .agg [I (w64 (x17.x0 + x10.cost)), I (w64 (x17.x1 + (GS.at q10_1 q17_2)))]), (109, I (w64 (x17.x1 + (GS.at q10_1 q17_2)))), (108, I (GS.at q10_1 q17_2)), (107, .ptr (I (GS.at q10_1 q17_2))), (106, I q17_2), (105, .sl q10_1.nl (q10_1.l.map I) (zsl q10_1.nl 1) none), (104, I x17.x1), (103, .lref 2 0 2 1), (102, I (w64 (x17.x0 + x10.cost))), (101, I x10.cost), (100, .lref 0 0 4 2), (99, I x17.x0), (98, .lref 2 0 2 0), (97, .agg [I x17.x0, I x17.x1]), (96, .lsl 1 0 va17_0.length 2 none), (13, .lref 2 0 2 0), (95, .agg [I x17.x0, I x17.x1]), (94, .ptr (.agg [I x17.x0, I x17.x1])), (93, B true), (3, .sl q10_0.nl (q10_0.l.map (GS.D Arr2_Int.D 2)) (zsl q10_0.nl 1) none), (5, .sl q10_1.nl (q10_1.l.map I) (zsl q10_1.nl 1) none), (7, I q17_2), (8, .lref 0 0 4 0), (10, .sl q17_0.nl (q17_0.l.map Arr2_Int.D) (zsl q17_0.nl 2) none), (11, .lsl 1 0 va17_0.length 2 none), (66, .sl e.items.nl (e.items.l.map S_Item.D) (zsl e.items.nl 4) none), (67, I ((e.items.l.length : Nat) : Int)), (68, I q17_2), (90, .sl q17_1.nl (q17_1.l.map Arr2_Int.D) (zsl q17_1.nl 2) none), (91, I ((q17_1.l.length : Nat) : Int)), (92, I ((i17 : Nat) : Int))], [(0, ⟨[.agg [I x10.now.lo, I x10.now.hi, I x10.cost, I x10.error]], 4, false⟩), (2, ⟨[.agg [I x17.x0, I x17.x1]], 2, false⟩), (3, ⟨[.agg [I x17.x0, I x17.x1], .agg [I (w64 (x17.x0 + x10.cost)), I (w64 (x17.x1 + (GS.at q10_1 q17_2)))]], 2, false⟩), (4, ⟨(va17_0 ++ [x17, (⟨w64 (x17.x0 + x10.cost), w64 (x17.x1 + (GS.at q10_1 q17_2))⟩ : Arr2_Int)]).map Arr2_Int.D, 2, false⟩)], 5, 0⟩

inductive LR_l_OrdersProved_17 where
  | x0 (va17_0 : List Arr2_Int)
  | x1
instance : Inhabited LR_l_OrdersProved_17 := ⟨.x0 default⟩
def zN (q10_1 : GS Int) (x10 : S_Item) (q17_2 : Int) : List Arr2_Int → (List Arr2_Int) → LR_l_OrdersProved_17
  | [], va17_0 => .x0 va17_0
  | x17 :: rest17, va17_0 =>
    zN q10_1 x10 q17_2 rest17 (va17_0 ++ [x17, (⟨w64 (x17.x0 + x10.cost), w64 (x17.x1 + (GS.at q10_1 q17_2))⟩ : Arr2_Int)])
def l_OrdersProved_17 (q10_1 : GS Int) (x10 : S_Item) (q17_2 : Int) : List Arr2_Int → LR_l_OrdersProved_17
  | [] => .x1
  | x17 :: rest17 =>
    zN q10_1 x10 q17_2 rest17 [x17, (⟨w64 (x17.x0 + x10.cost), w64 (x17.x1 + (GS.at q10_1 q17_2))⟩ : Arr2_Int)]
def lr_l_OrdersProved_17 (e : S_Estate) (q10_0 : GS (GS Arr2_Int)) (q10_1 : GS Int) (x10 : S_Item) (q17_0 : GS Arr2_Int) (q17_1 : GS Arr2_Int) (q17_2 : Int) : LR_l_OrdersProved_17 → Exit × St
  | .x0 va17_0 => ((.exit 2), ⟨164, [(93, B false), (3, .sl q10_0.nl (q10_0.l.map (GS.D Arr2_Int.D 2)) (zsl q10_0.nl 1) none), (5, .sl q10_1.nl (q10_1.l.map I) (zsl q10_1.nl 1) none), (7, I q17_2), (8, .lref 0 0 4 0), (10, .sl q17_0.nl (q17_0.l.map Arr2_Int.D) (zsl q17_0.nl 2) none), (11, .lsl 1 0 va17_0.length 2 none), (66, .sl e.items.nl (e.items.l.map S_Item.D) (zsl e.items.nl 4) none), (67, I ((e.items.l.length : Nat) : Int)), (68, I q17_2), (90, .sl q17_1.nl (q17_1.l.map Arr2_Int.D) (zsl q17_1.nl 2) none), (91, I ((q17_1.l.length : Nat) : Int)), (92, I ((q17_1.l.length : Nat) : Int))], [(0, ⟨[.agg [I x10.now.lo, I x10.now.hi, I x10.cost, I x10.error]], 4, false⟩), (1, ⟨va17_0.map Arr2_Int.D, 2, false⟩)], 2, 0⟩)
  | .x1 => ((.exit 2), ⟨164, [(93, B false), (3, .sl q10_0.nl (q10_0.l.map (GS.D Arr2_Int.D 2)) (zsl q10_0.nl 1) none), (5, .sl q10_1.nl (q10_1.l.map I) (zsl q10_1.nl 1) none), (7, I q17_2), (8, .lref 0 0 4 0), (10, .sl q17_0.nl (q17_0.l.map Arr2_Int.D) (zsl q17_0.nl 2) none), (11, .sl true [] 0 none), (66, .sl e.items.nl (e.items.l.map S_Item.D) (zsl e.items.nl 4) none), (67, I ((e.items.l.length : Nat) : Int)), (68, I q17_2), (90, .sl q17_1.nl (q17_1.l.map Arr2_Int.D) (zsl q17_1.nl 2) none), (91, I ((q17_1.l.length : Nat) : Int)), (92, I ((q17_1.l.length : Nat) : Int))], [(0, ⟨[.agg [I x10.now.lo, I x10.now.hi, I x10.cost, I x10.error]], 4, false⟩)], 1, 0⟩)
def iv_l_OrdersProved_17 (e : S_Estate) (q10_0 : GS (GS Arr2_Int)) (q10_1 : GS Int) (x10 : S_Item) (q17_0 : GS Arr2_Int) (q17_1 : GS Arr2_Int) (q17_2 : Int) : LR_l_OrdersProved_17 → Prop
  | .x0 va17_0 => (va17_0.length ≤ 2 * q17_1.l.length)
  | .x1 => True
theorem lp_l_OrdersProved_17a (e : S_Estate) (q10_0 : GS (GS Arr2_Int)) (q10_1 : GS Int) (x10 : S_Item) (q17_0 : GS Arr2_Int) (q17_1 : GS Arr2_Int) (q17_2 : Int) : ∀ (rest17 : List Arr2_Int) (i17 : Nat) (va17_0 : List Arr2_Int) (hd17 : q17_1.l.drop i17 = rest17) (hi17 : i17 ≤ q17_1.l.length) (hq17 : q17_1.l.length ≤ 300) (hg17 : 0 ≤ q17_2 ∧ q17_2 < ((q10_1.l.length : Nat) : Int)) (hg17_va17_0 : va17_0.length ≤ 2 * i17) (hL17 : q17_1.l.length ≤ 1099511627776), (lim cfg).loop 10 lp10_17 ⟨164, [(3, .sl q10_0.nl (q10_0.l.map (GS.D Arr2_Int.D 2)) (zsl q10_0.nl 1) none), (5, .sl q10_1.nl (q10_1.l.map I) (zsl q10_1.nl 1) none), (7, I q17_2), (8, .lref 0 0 4 0), (10, .sl q17_0.nl (q17_0.l.map Arr2_Int.D) (zsl q17_0.nl 2) none), (11, .lsl 1 0 va17_0.length 2 none), (66, .sl e.items.nl (e.items.l.map S_Item.D) (zsl e.items.nl 4) none), (67, I ((e.items.l.length : Nat) : Int)), (68, I q17_2), (90, .sl q17_1.nl (q17_1.l.map Arr2_Int.D) (zsl q17_1.nl 2) none), (91, I ((q17_1.l.length : Nat) : Int)), (92, I ((i17 : Nat) : Int))], [(0, ⟨[.agg [I x10.now.lo, I x10.now.hi, I x10.cost, I x10.error]], 4, false⟩), (1, ⟨va17_0.map Arr2_Int.D, 2, false⟩)], 2, 0⟩ = some (lr_l_OrdersProved_17 e q10_0 q10_1 x10 q17_0 q17_1 q17_2 (zN q10_1 x10 q17_2 rest17 va17_0)) := by
  intro rest17
  induction rest17 with
  | nil =>
    intro i17 va17_0 hd17 hi17 hq17 hg17 hg17_va17_0 hL17
    unfold zN
    obtain rfl : i17 = q17_1.l.length := nil_eq hd17 hi17
    exact zF [.dec false] (And.intro (lt_no hd17) trivial) (by kernel_rfl)
  | cons x17 rest17 ih =>
    intro i17 va17_0 hd17 hi17 hq17 hg17 hg17_va17_0 hL17
    have hlt17 := zw hd17
    unfold zN
    exact po_turn' (ks := [3, 5, 7, 8, 10, 11, 66, 67, 68, 90, 91, 92]) (st' := (sd30166 e q10_0 q10_1 x10 i17 q17_0 q17_1 q17_2 x17 va17_0)) [.dec true, .el (.agg [I x17.x0, I x17.x1]), .el (I (GS.at q10_1 q17_2)), .op (some 112) ⟨.lsl 4 0 ((va17_0 ++ [x17, (⟨w64 (x17.x0 + x10.cost), w64 (x17.x1 + (GS.at q10_1 q17_2))⟩ : Arr2_Int)]).length) 2 none, [(1, none), (4, some ⟨(va17_0 ++ [x17, (⟨w64 (x17.x0 + x10.cost), w64 (x17.x1 + (GS.at q10_1 q17_2))⟩ : Arr2_Int)]).map Arr2_Int.D, 2, false⟩)], [1, 3], 5⟩, .rw 113 (I ((i17 + 1 : Nat) : Int))] (And.intro (inc_rw (i := i17) (by have := zw hd17; omega)) (And.intro (app_row2 (f := Arr2_Int.D) (te := ty47) (gO := zx [(0, ⟨[.agg [I x10.now.lo, I x10.now.hi, I x10.cost, I x10.error]], 4, false⟩), (1, ⟨va17_0.map Arr2_Int.D, 2, false⟩), (2, ⟨[.agg [I x17.x0, I x17.x1]], 2, false⟩), (3, ⟨[.agg [I x17.x0, I x17.x1], .agg [I (w64 (x17.x0 + x10.cost)), I (w64 (x17.x1 + (GS.at q10_1 q17_2)))]], 2, false⟩)]) (nxt := 4) (o := 1) (o2 := 3) (fz := false) zm va17_0 x17 (⟨w64 (x17.x0 + x10.cost), w64 (x17.x1 + (GS.at q10_1 q17_2))⟩ : Arr2_Int) (by kernel_rfl) (by kernel_rfl) rfl (by kernel_rfl) (by decide) ⟨by simp only [ty47, big] <;> (first | assumption | omega | (with_reducible exact zf) | (with_reducible exact Nat.le_trans zh (by omega)) | (exact zj hi0 rfl (z6 (by simp)) (by simp)) | (exact zi (by assumption) (z6 (by omega)) (by omega)) | (exact rowsR_two hi0 rfl (zv (by decide)) (by decide)) | (exact rowsR_app (by assumption) (zv (by omega)) (by omega)) | (exact fronts_ne (by assumption)) | (simp only [zd] at * <;> omega) | (simp only [zb, z8, za, z7, zc, ze, GS.nil_len, GS.some_l, List.length_set, List.length_append, List.length_cons, List.length_nil] at * <;> first | with_reducible assumption | omega) | (simp only [zb, z8, za, z7, zc, ze, GS.nil_len, GS.some_l, List.length_set, List.length_append, List.length_cons, List.length_nil, zd] at * <;> first | with_reducible assumption | omega) | (simp at * <;> omega)), by simp only [big] <;> (first | assumption | omega | (with_reducible exact zf) | (with_reducible exact Nat.le_trans zh (by omega)) | (exact zj hi0 rfl (z6 (by simp)) (by simp)) | (exact zi (by assumption) (z6 (by omega)) (by omega)) | (exact rowsR_two hi0 rfl (zv (by decide)) (by decide)) | (exact rowsR_app (by assumption) (zv (by omega)) (by omega)) | (exact fronts_ne (by assumption)) | (simp only [zd] at * <;> omega) | (simp only [zb, z8, za, z7, zc, ze, GS.nil_len, GS.some_l, List.length_set, List.length_append, List.length_cons, List.length_nil] at * <;> first | with_reducible assumption | omega) | (simp only [zb, z8, za, z7, zc, ze, GS.nil_len, GS.some_l, List.length_set, List.length_append, List.length_cons, List.length_nil, zd] at * <;> first | with_reducible assumption | omega) | (simp at * <;> omega))⟩) (And.intro (el_in (s := q10_1) (f := I) (k := 1) (i := q17_2) (by first | assumption | omega) (by first | assumption | omega)) (And.intro (el_at (s := q17_1) (f := Arr2_Int.D) (k := 2) hd17) (And.intro (lt_at hd17) trivial))))) (by kernel_rfl) (by (simp only [sd30166, go_sem, List.length_set, Nat.reduceAdd, Nat.reduceEqDiff, Nat.reduceLT, Nat.reduceLeDiff, bI2, zm.idsL, zm.renL, zm.snapAll, zk.idsL, zk.renL, zk.snapAll, zK.idsL, zK.renL, zK.snapAll, zo.idsL, zo.renL, zo.snapAll]) <;> rfl) (ih (i17 + 1) (va17_0 ++ [x17, (⟨w64 (x17.x0 + x10.cost), w64 (x17.x1 + (GS.at q10_1 q17_2))⟩ : Arr2_Int)]) (zH hd17) (zw hd17) (by first | assumption | omega) (by first | assumption | omega) (by first | assumption | omega | (with_reducible exact zf) | (with_reducible exact Nat.le_trans zh (by omega)) | (exact zj hi0 rfl (z6 (by simp)) (by simp)) | (exact zi (by assumption) (z6 (by omega)) (by omega)) | (exact rowsR_two hi0 rfl (zv (by decide)) (by decide)) | (exact rowsR_app (by assumption) (zv (by omega)) (by omega)) | (exact fronts_ne (by assumption)) | (simp only [zd] at * <;> omega) | (simp only [zb, z8, za, z7, zc, ze, GS.nil_len, GS.some_l, List.length_set, List.length_append, List.length_cons, List.length_nil] at * <;> first | with_reducible assumption | omega) | (simp only [zb, z8, za, z7, zc, ze, GS.nil_len, GS.some_l, List.length_set, List.length_append, List.length_cons, List.length_nil, zd] at * <;> first | with_reducible assumption | omega) | (simp at * <;> omega)) (by first | assumption | omega)) (by kernel_rfl)
theorem ivt_l_OrdersProved_17a (e : S_Estate) (q10_0 : GS (GS Arr2_Int)) (q10_1 : GS Int) (x10 : S_Item) (q17_0 : GS Arr2_Int) (q17_1 : GS Arr2_Int) (q17_2 : Int) : ∀ (rest17 : List Arr2_Int) (i17 : Nat) (va17_0 : List Arr2_Int) (hd17 : q17_1.l.drop i17 = rest17) (hi17 : i17 ≤ q17_1.l.length) (hq17 : q17_1.l.length ≤ 300) (hg17 : 0 ≤ q17_2 ∧ q17_2 < ((q10_1.l.length : Nat) : Int)) (hg17_va17_0 : va17_0.length ≤ 2 * i17) (hL17 : q17_1.l.length ≤ 1099511627776), iv_l_OrdersProved_17 e q10_0 q10_1 x10 q17_0 q17_1 q17_2 (zN q10_1 x10 q17_2 rest17 va17_0) := by
  intro rest17
  induction rest17 with
  | nil =>
    intro i17 va17_0 hd17 hi17 hq17 hg17 hg17_va17_0 hL17
    unfold zN
    obtain rfl : i17 = q17_1.l.length := nil_eq hd17 hi17
    exact hg17_va17_0
  | cons x17 rest17 ih =>
    intro i17 va17_0 hd17 hi17 hq17 hg17 hg17_va17_0 hL17
    have hlt17 := zw hd17
    unfold zN
    exact ih (i17 + 1) (va17_0 ++ [x17, (⟨w64 (x17.x0 + x10.cost), w64 (x17.x1 + (GS.at q10_1 q17_2))⟩ : Arr2_Int)]) (zH hd17) (zw hd17) (by first | assumption | omega) (by first | assumption | omega) (by first | assumption | omega | (with_reducible exact zf) | (with_reducible exact Nat.le_trans zh (by omega)) | (exact zj hi0 rfl (z6 (by simp)) (by simp)) | (exact zi (by assumption) (z6 (by omega)) (by omega)) | (exact rowsR_two hi0 rfl (zv (by decide)) (by decide)) | (exact rowsR_app (by assumption) (zv (by omega)) (by omega)) | (exact fronts_ne (by assumption)) | (simp only [zd] at * <;> omega) | (simp only [zb, z8, za, z7, zc, ze, GS.nil_len, GS.some_l, List.length_set, List.length_append, List.length_cons, List.length_nil] at * <;> first | with_reducible assumption | omega) | (simp only [zb, z8, za, z7, zc, ze, GS.nil_len, GS.some_l, List.length_set, List.length_append, List.length_cons, List.length_nil, zd] at * <;> first | with_reducible assumption | omega) | (simp at * <;> omega)) (by first | assumption | omega)
theorem lp_l_OrdersProved_17 (e : S_Estate) (q10_0 : GS (GS Arr2_Int)) (q10_1 : GS Int) (x10 : S_Item) (q17_0 : GS Arr2_Int) (q17_1 : GS Arr2_Int) (q17_2 : Int) : ∀ (rest17 : List Arr2_Int) (i17 : Nat) (hd17 : q17_1.l.drop i17 = rest17) (hi17 : i17 ≤ q17_1.l.length) (hq17 : q17_1.l.length ≤ 300) (hg17 : 0 ≤ q17_2 ∧ q17_2 < ((q10_1.l.length : Nat) : Int)) (hL17 : q17_1.l.length ≤ 1099511627776), (lim cfg).loop 10 lp10_17 ⟨164, [(3, .sl q10_0.nl (q10_0.l.map (GS.D Arr2_Int.D 2)) (zsl q10_0.nl 1) none), (5, .sl q10_1.nl (q10_1.l.map I) (zsl q10_1.nl 1) none), (7, I q17_2), (8, .lref 0 0 4 0), (10, .sl q17_0.nl (q17_0.l.map Arr2_Int.D) (zsl q17_0.nl 2) none), (11, .sl true [] 0 none), (66, .sl e.items.nl (e.items.l.map S_Item.D) (zsl e.items.nl 4) none), (67, I ((e.items.l.length : Nat) : Int)), (68, I q17_2), (90, .sl q17_1.nl (q17_1.l.map Arr2_Int.D) (zsl q17_1.nl 2) none), (91, I ((q17_1.l.length : Nat) : Int)), (92, I ((i17 : Nat) : Int))], [(0, ⟨[.agg [I x10.now.lo, I x10.now.hi, I x10.cost, I x10.error]], 4, false⟩)], 1, 0⟩ = some (lr_l_OrdersProved_17 e q10_0 q10_1 x10 q17_0 q17_1 q17_2 (l_OrdersProved_17 q10_1 x10 q17_2 rest17)) := by
  intro rest17
  induction rest17 with
  | nil =>
    intro i17 hd17 hi17 hq17 hg17 hL17
    unfold l_OrdersProved_17
    obtain rfl : i17 = q17_1.l.length := nil_eq hd17 hi17
    exact zF [.dec false] (And.intro (lt_no hd17) trivial) (by kernel_rfl)
  | cons x17 rest17 ih =>
    intro i17 hd17 hi17 hq17 hg17 hL17
    have hlt17 := zw hd17
    unfold l_OrdersProved_17
    dsimp only
    exact po_turn [.dec true, .el (.agg [I x17.x0, I x17.x1]), .el (I (GS.at q10_1 q17_2)), .rw 113 (I ((i17 + 1 : Nat) : Int))] (And.intro (inc_rw (i := i17) (by have := zw hd17; omega)) (And.intro (el_in (s := q10_1) (f := I) (k := 1) (i := q17_2) (by first | assumption | omega) (by first | assumption | omega)) (And.intro (el_at (s := q17_1) (f := Arr2_Int.D) (k := 2) hd17) (And.intro (lt_at hd17) trivial)))) (lp_l_OrdersProved_17a e q10_0 q10_1 x10 q17_0 q17_1 q17_2 _ (i17 + 1) [x17, (⟨w64 (x17.x0 + x10.cost), w64 (x17.x1 + (GS.at q10_1 q17_2))⟩ : Arr2_Int)] (zH hd17) (zw hd17) (by first | assumption | omega) (by first | assumption | omega) (by first | assumption | omega | (with_reducible exact zf) | (with_reducible exact Nat.le_trans zh (by omega)) | (exact zj hi0 rfl (z6 (by simp)) (by simp)) | (exact zi (by assumption) (z6 (by omega)) (by omega)) | (exact rowsR_two hi0 rfl (zv (by decide)) (by decide)) | (exact rowsR_app (by assumption) (zv (by omega)) (by omega)) | (exact fronts_ne (by assumption)) | (simp only [zd] at * <;> omega) | (simp only [zb, z8, za, z7, zc, ze, GS.nil_len, GS.some_l, List.length_set, List.length_append, List.length_cons, List.length_nil] at * <;> first | with_reducible assumption | omega) | (simp only [zb, z8, za, z7, zc, ze, GS.nil_len, GS.some_l, List.length_set, List.length_append, List.length_cons, List.length_nil, zd] at * <;> first | with_reducible assumption | omega) | (simp at * <;> omega)) (by first | assumption | omega)) (by kernel_rfl)
theorem ivt_l_OrdersProved_17 (e : S_Estate) (q10_0 : GS (GS Arr2_Int)) (q10_1 : GS Int) (x10 : S_Item) (q17_0 : GS Arr2_Int) (q17_1 : GS Arr2_Int) (q17_2 : Int) : ∀ (rest17 : List Arr2_Int) (i17 : Nat) (hd17 : q17_1.l.drop i17 = rest17) (hi17 : i17 ≤ q17_1.l.length) (hq17 : q17_1.l.length ≤ 300) (hg17 : 0 ≤ q17_2 ∧ q17_2 < ((q10_1.l.length : Nat) : Int)) (hL17 : q17_1.l.length ≤ 1099511627776), iv_l_OrdersProved_17 e q10_0 q10_1 x10 q17_0 q17_1 q17_2 (l_OrdersProved_17 q10_1 x10 q17_2 rest17) := by
  intro rest17
  induction rest17 with
  | nil =>
    intro i17 hd17 hi17 hq17 hg17 hL17
    unfold l_OrdersProved_17
    obtain rfl : i17 = q17_1.l.length := nil_eq hd17 hi17
    exact trivial
  | cons x17 rest17 ih =>
    intro i17 hd17 hi17 hq17 hg17 hL17
    have hlt17 := zw hd17
    unfold l_OrdersProved_17
    dsimp only
    exact ivt_l_OrdersProved_17a e q10_0 q10_1 x10 q17_0 q17_1 q17_2 _ (i17 + 1) [x17, (⟨w64 (x17.x0 + x10.cost), w64 (x17.x1 + (GS.at q10_1 q17_2))⟩ : Arr2_Int)] (zH hd17) (zw hd17) (by first | assumption | omega) (by first | assumption | omega) (by first | assumption | omega | (with_reducible exact zf) | (with_reducible exact Nat.le_trans zh (by omega)) | (exact zj hi0 rfl (z6 (by simp)) (by simp)) | (exact zi (by assumption) (z6 (by omega)) (by omega)) | (exact rowsR_two hi0 rfl (zv (by decide)) (by decide)) | (exact rowsR_app (by assumption) (zv (by omega)) (by omega)) | (exact fronts_ne (by assumption)) | (simp only [zd] at * <;> omega) | (simp only [zb, z8, za, z7, zc, ze, GS.nil_len, GS.some_l, List.length_set, List.length_append, List.length_cons, List.length_nil] at * <;> first | with_reducible assumption | omega) | (simp only [zb, z8, za, z7, zc, ze, GS.nil_len, GS.some_l, List.length_set, List.length_append, List.length_cons, List.length_nil, zd] at * <;> first | with_reducible assumption | omega) | (simp at * <;> omega)) (by first | assumption | omega)

theorem l_OrdersProved_17a_ne (g : GS Int) (x : S_Item) (k : Int) : ∀ (l v : List Arr2_Int), zN g x k l v ≠ .x1
  | [], v => by intro h; cases h
  | y :: l, v => by
    unfold zN
    exact l_OrdersProved_17a_ne g x k l _
theorem l_OrdersProved_17_ne {g : GS Int} {x : S_Item} {k : Int} {l : List Arr2_Int} (h : l ≠ []) : l_OrdersProved_17 g x k l ≠ .x1 := by
  cases l with
  | nil => exact absurd rfl h
  | cons y l => exact l_OrdersProved_17a_ne g x k l _

noncomputable def lp10_22 : Code := subC [1, 1, 1, 1, 1, 1, 0, 1, 0, 0, 1, 1, 0, 0, 1, 1, 1, 1, 1, 0, 1, 0, 0] (bodyC Try.f10)

def sd30168 (e : S_Estate) (q10_0 : GS (GS Arr2_Int)) (q10_1 : GS Int) (va17_0 : List Arr2_Int) (i22 : Nat) (q22_0 : GS Arr2_Int) (q22_1 : Int) (x22 : Arr2_Int) : St := ⟨164, [(116, I ((i22 + 1 : Nat) : Int)), (151, I ((i22 + 1 : Nat) : Int)), (150, B false), (149, B false), (148, B false), (147, B false), (146, I x22.x1), (145, .lref 1 0 2 1), (144, I ((GS.at q22_0 (w64 (((i22 : Nat) : Int) - 1))).x1)), (143, .ptr (I ((GS.at q22_0 (w64 (((i22 : Nat) : Int) - 1))).x1))), (142, .ptr (.agg [I ((GS.at q22_0 (w64 (((i22 : Nat) : Int) - 1))).x0), I ((GS.at q22_0 (w64 (((i22 : Nat) : Int) - 1))).x1)])), (141, I (w64 (((i22 : Nat) : Int) - 1))), (140, I ((i22 : Nat) : Int)), (139, .sl q22_0.nl (q22_0.l.map Arr2_Int.D) (zsl q22_0.nl 2) none), (138, B false), (137, B false), (136, I x22.x0), (135, .lref 1 0 2 0), (134, I ((GS.at q22_0 (w64 (((i22 : Nat) : Int) - 1))).x0)), (133, .ptr (I ((GS.at q22_0 (w64 (((i22 : Nat) : Int) - 1))).x0))), (132, .ptr (.agg [I ((GS.at q22_0 (w64 (((i22 : Nat) : Int) - 1))).x0), I ((GS.at q22_0 (w64 (((i22 : Nat) : Int) - 1))).x1)])), (131, I (w64 (((i22 : Nat) : Int) - 1))), (130, I ((i22 : Nat) : Int)), (129, .sl q22_0.nl (q22_0.l.map Arr2_Int.D) (zsl q22_0.nl 2) none), (128, B true), (127, B true), (126, I ((i22 : Nat) : Int)), (125, B false), (124, B false), (123, B true), (122, .agg [I x22.x0, I x22.x1]), (121, .lsl 0 0 va17_0.length 2 none), (14, I ((i22 : Nat) : Int)), (15, .lref 1 0 2 0), (120, .agg [I x22.x0, I x22.x1]), (119, .ptr (.agg [I x22.x0, I x22.x1])), (118, I ((i22 : Nat) : Int)), (117, B true), (3, .sl q10_0.nl (q10_0.l.map (GS.D Arr2_Int.D 2)) (zsl q10_0.nl 1) none), (5, .sl q10_1.nl (q10_1.l.map I) (zsl q10_1.nl 1) none), (10, .sl q22_0.nl (q22_0.l.map Arr2_Int.D) (zsl q22_0.nl 2) none), (11, .lsl 0 0 va17_0.length 2 none), (66, .sl e.items.nl (e.items.l.map S_Item.D) (zsl e.items.nl 4) none), (67, I ((e.items.l.length : Nat) : Int)), (68, I q22_1), (114, .sl q22_0.nl (q22_0.l.map Arr2_Int.D) (zsl q22_0.nl 2) none), (115, I ((q22_0.l.length : Nat) : Int)), (116, I ((i22 : Nat) : Int))], [(0, ⟨va17_0.map Arr2_Int.D, 2, false⟩), (1, ⟨[.agg [I x22.x0, I x22.x1]], 2, false⟩)], 2, 0⟩

def sd30169 (e : S_Estate) (q10_0 : GS (GS Arr2_Int)) (q10_1 : GS Int) (va17_0 : List Arr2_Int) (i22 : Nat) (q22_0 : GS Arr2_Int) (q22_1 : Int) (x22 : Arr2_Int) : St := ⟨164, [(116, I ((i22 + 1 : Nat) : Int)), (151, I ((i22 + 1 : Nat) : Int)), (150, B false), (149, B false), (148, .tup []), (147, .tup []), (146, .tup []), (145, .tup []), (144, .tup []), (143, .tup []), (142, .tup []), (141, .tup []), (140, .tup []), (139, .tup []), (138, .tup []), (137, .tup []), (136, .tup []), (135, .tup []), (134, .tup []), (133, .tup []), (132, .tup []), (131, .tup []), (130, .tup []), (129, .tup []), (128, B false), (127, B false), (126, I ((i22 : Nat) : Int)), (125, B false), (124, B false), (123, B true), (122, .agg [I x22.x0, I x22.x1]), (121, .lsl 0 0 va17_0.length 2 none), (14, I ((i22 : Nat) : Int)), (15, .lref 1 0 2 0), (120, .agg [I x22.x0, I x22.x1]), (119, .ptr (.agg [I x22.x0, I x22.x1])), (118, I ((i22 : Nat) : Int)), (117, B true), (3, .sl q10_0.nl (q10_0.l.map (GS.D Arr2_Int.D 2)) (zsl q10_0.nl 1) none), (5, .sl q10_1.nl (q10_1.l.map I) (zsl q10_1.nl 1) none), (10, .sl q22_0.nl (q22_0.l.map Arr2_Int.D) (zsl q22_0.nl 2) none), (11, .lsl 0 0 va17_0.length 2 none), (66, .sl e.items.nl (e.items.l.map S_Item.D) (zsl e.items.nl 4) none), (67, I ((e.items.l.length : Nat) : Int)), (68, I q22_1), (114, .sl q22_0.nl (q22_0.l.map Arr2_Int.D) (zsl q22_0.nl 2) none), (115, I ((q22_0.l.length : Nat) : Int)), (116, I ((i22 : Nat) : Int))], [(0, ⟨va17_0.map Arr2_Int.D, 2, false⟩), (1, ⟨[.agg [I x22.x0, I x22.x1]], 2, false⟩)], 2, 0⟩

inductive LR_l_OrdersProved_22 where
  | x0
  | x1 (i22 : Nat) (x22 : Arr2_Int) (va17_0 : List Arr2_Int)
  | x2 (i22 : Nat) (x22 : Arr2_Int) (va17_0 : List Arr2_Int)
  | x3 (i22 : Nat) (x22 : Arr2_Int) (va17_0 : List Arr2_Int)
instance : Inhabited LR_l_OrdersProved_22 := ⟨.x0⟩
def l_OrdersProved_22 (va17_0 : List Arr2_Int) (q22_0 : GS Arr2_Int) : List Arr2_Int → Nat → LR_l_OrdersProved_22
  | [], i22 => .x0
  | x22 :: rest22, i22 =>
    bif (hasPair (GS.some va17_0) x22) then
      bif decide (((i22 : Nat) : Int) > 0) then
        bif decide (((GS.at q22_0 (w64 (((i22 : Nat) : Int) - 1))).x0) ≥ x22.x0) then
          .x1 i22 x22 va17_0
        else
          bif decide (((GS.at q22_0 (w64 (((i22 : Nat) : Int) - 1))).x1) ≥ x22.x1) then
            .x2 i22 x22 va17_0
          else
            l_OrdersProved_22 va17_0 q22_0 rest22 (i22 + 1)
      else
        l_OrdersProved_22 va17_0 q22_0 rest22 (i22 + 1)
    else
      .x3 i22 x22 va17_0
def lr_l_OrdersProved_22 (e : S_Estate) (q10_0 : GS (GS Arr2_Int)) (q10_1 : GS Int) (va17_0 : List Arr2_Int) (q22_0 : GS Arr2_Int) (q22_1 : Int) : LR_l_OrdersProved_22 → Exit × St
  | .x0 => ((.exit 4), ⟨164, [(117, B false), (3, .sl q10_0.nl (q10_0.l.map (GS.D Arr2_Int.D 2)) (zsl q10_0.nl 1) none), (5, .sl q10_1.nl (q10_1.l.map I) (zsl q10_1.nl 1) none), (10, .sl q22_0.nl (q22_0.l.map Arr2_Int.D) (zsl q22_0.nl 2) none), (11, .lsl 0 0 va17_0.length 2 none), (66, .sl e.items.nl (e.items.l.map S_Item.D) (zsl e.items.nl 4) none), (67, I ((e.items.l.length : Nat) : Int)), (68, I q22_1), (114, .sl q22_0.nl (q22_0.l.map Arr2_Int.D) (zsl q22_0.nl 2) none), (115, I ((q22_0.l.length : Nat) : Int)), (116, I ((q22_0.l.length : Nat) : Int))], [(0, ⟨va17_0.map Arr2_Int.D, 2, false⟩)], 1, 0⟩)
  | .x1 i22 x22 va17_0 => (.ret, ⟨164, [(2, B false), (150, B true), (149, B true), (148, B true), (147, .tup []), (146, .tup []), (145, .tup []), (144, .tup []), (143, .tup []), (142, .tup []), (141, .tup []), (140, .tup []), (139, .tup []), (138, B true), (137, B true), (136, I x22.x0), (135, .lref 1 0 2 0), (134, I ((GS.at q22_0 (w64 (((i22 : Nat) : Int) - 1))).x0)), (133, .ptr (I ((GS.at q22_0 (w64 (((i22 : Nat) : Int) - 1))).x0))), (132, .ptr (.agg [I ((GS.at q22_0 (w64 (((i22 : Nat) : Int) - 1))).x0), I ((GS.at q22_0 (w64 (((i22 : Nat) : Int) - 1))).x1)])), (131, I (w64 (((i22 : Nat) : Int) - 1))), (130, I ((i22 : Nat) : Int)), (129, .sl q22_0.nl (q22_0.l.map Arr2_Int.D) (zsl q22_0.nl 2) none), (128, B true), (127, B true), (126, I ((i22 : Nat) : Int)), (125, B false), (124, B false), (123, B true), (122, .agg [I x22.x0, I x22.x1]), (121, .lsl 0 0 va17_0.length 2 none), (14, I ((i22 : Nat) : Int)), (15, .lref 1 0 2 0), (120, .agg [I x22.x0, I x22.x1]), (119, .ptr (.agg [I x22.x0, I x22.x1])), (118, I ((i22 : Nat) : Int)), (117, B true), (3, .sl q10_0.nl (q10_0.l.map (GS.D Arr2_Int.D 2)) (zsl q10_0.nl 1) none), (5, .sl q10_1.nl (q10_1.l.map I) (zsl q10_1.nl 1) none), (10, .sl q22_0.nl (q22_0.l.map Arr2_Int.D) (zsl q22_0.nl 2) none), (11, .lsl 0 0 va17_0.length 2 none), (66, .sl e.items.nl (e.items.l.map S_Item.D) (zsl e.items.nl 4) none), (67, I ((e.items.l.length : Nat) : Int)), (68, I q22_1), (114, .sl q22_0.nl (q22_0.l.map Arr2_Int.D) (zsl q22_0.nl 2) none), (115, I ((q22_0.l.length : Nat) : Int)), (116, I ((i22 : Nat) : Int))], [(0, ⟨va17_0.map Arr2_Int.D, 2, false⟩), (1, ⟨[.agg [I x22.x0, I x22.x1]], 2, false⟩)], 2, 0⟩)
  | .x2 i22 x22 va17_0 => (.ret, ⟨164, [(2, B false), (150, B true), (149, B true), (148, B true), (147, B true), (146, I x22.x1), (145, .lref 1 0 2 1), (144, I ((GS.at q22_0 (w64 (((i22 : Nat) : Int) - 1))).x1)), (143, .ptr (I ((GS.at q22_0 (w64 (((i22 : Nat) : Int) - 1))).x1))), (142, .ptr (.agg [I ((GS.at q22_0 (w64 (((i22 : Nat) : Int) - 1))).x0), I ((GS.at q22_0 (w64 (((i22 : Nat) : Int) - 1))).x1)])), (141, I (w64 (((i22 : Nat) : Int) - 1))), (140, I ((i22 : Nat) : Int)), (139, .sl q22_0.nl (q22_0.l.map Arr2_Int.D) (zsl q22_0.nl 2) none), (138, B false), (137, B false), (136, I x22.x0), (135, .lref 1 0 2 0), (134, I ((GS.at q22_0 (w64 (((i22 : Nat) : Int) - 1))).x0)), (133, .ptr (I ((GS.at q22_0 (w64 (((i22 : Nat) : Int) - 1))).x0))), (132, .ptr (.agg [I ((GS.at q22_0 (w64 (((i22 : Nat) : Int) - 1))).x0), I ((GS.at q22_0 (w64 (((i22 : Nat) : Int) - 1))).x1)])), (131, I (w64 (((i22 : Nat) : Int) - 1))), (130, I ((i22 : Nat) : Int)), (129, .sl q22_0.nl (q22_0.l.map Arr2_Int.D) (zsl q22_0.nl 2) none), (128, B true), (127, B true), (126, I ((i22 : Nat) : Int)), (125, B false), (124, B false), (123, B true), (122, .agg [I x22.x0, I x22.x1]), (121, .lsl 0 0 va17_0.length 2 none), (14, I ((i22 : Nat) : Int)), (15, .lref 1 0 2 0), (120, .agg [I x22.x0, I x22.x1]), (119, .ptr (.agg [I x22.x0, I x22.x1])), (118, I ((i22 : Nat) : Int)), (117, B true), (3, .sl q10_0.nl (q10_0.l.map (GS.D Arr2_Int.D 2)) (zsl q10_0.nl 1) none), (5, .sl q10_1.nl (q10_1.l.map I) (zsl q10_1.nl 1) none), (10, .sl q22_0.nl (q22_0.l.map Arr2_Int.D) (zsl q22_0.nl 2) none), (11, .lsl 0 0 va17_0.length 2 none), (66, .sl e.items.nl (e.items.l.map S_Item.D) (zsl e.items.nl 4) none), (67, I ((e.items.l.length : Nat) : Int)), (68, I q22_1), (114, .sl q22_0.nl (q22_0.l.map Arr2_Int.D) (zsl q22_0.nl 2) none), (115, I ((q22_0.l.length : Nat) : Int)), (116, I ((i22 : Nat) : Int))], [(0, ⟨va17_0.map Arr2_Int.D, 2, false⟩), (1, ⟨[.agg [I x22.x0, I x22.x1]], 2, false⟩)], 2, 0⟩)
  | .x3 i22 x22 va17_0 => (.ret, ⟨164, [(2, B false), (150, B true), (149, .tup []), (148, .tup []), (147, .tup []), (146, .tup []), (145, .tup []), (144, .tup []), (143, .tup []), (142, .tup []), (141, .tup []), (140, .tup []), (139, .tup []), (138, .tup []), (137, .tup []), (136, .tup []), (135, .tup []), (134, .tup []), (133, .tup []), (132, .tup []), (131, .tup []), (130, .tup []), (129, .tup []), (128, .tup []), (127, .tup []), (126, .tup []), (125, B true), (124, B true), (123, B false), (122, .agg [I x22.x0, I x22.x1]), (121, .lsl 0 0 va17_0.length 2 none), (14, I ((i22 : Nat) : Int)), (15, .lref 1 0 2 0), (120, .agg [I x22.x0, I x22.x1]), (119, .ptr (.agg [I x22.x0, I x22.x1])), (118, I ((i22 : Nat) : Int)), (117, B true), (3, .sl q10_0.nl (q10_0.l.map (GS.D Arr2_Int.D 2)) (zsl q10_0.nl 1) none), (5, .sl q10_1.nl (q10_1.l.map I) (zsl q10_1.nl 1) none), (10, .sl q22_0.nl (q22_0.l.map Arr2_Int.D) (zsl q22_0.nl 2) none), (11, .lsl 0 0 va17_0.length 2 none), (66, .sl e.items.nl (e.items.l.map S_Item.D) (zsl e.items.nl 4) none), (67, I ((e.items.l.length : Nat) : Int)), (68, I q22_1), (114, .sl q22_0.nl (q22_0.l.map Arr2_Int.D) (zsl q22_0.nl 2) none), (115, I ((q22_0.l.length : Nat) : Int)), (116, I ((i22 : Nat) : Int))], [(0, ⟨va17_0.map Arr2_Int.D, 2, false⟩), (1, ⟨[.agg [I x22.x0, I x22.x1]], 2, false⟩)], 2, 0⟩)
def l_OrdersProved_22_l_o1 (va17_0 : List Arr2_Int) (x22 : Arr2_Int) : List Ora := [.dec true, .el (.agg [I x22.x0, I x22.x1]), .pureS (B (hasPair (GS.some va17_0) x22)) true [(0, .sl false (va17_0.map Arr2_Int.D) 2 none, [0])]]
def l_OrdersProved_22_l_o2 (i22 : Nat) (q22_0 : GS Arr2_Int) : List Ora := [.dec true, .dec true, .el (.agg [I ((GS.at q22_0 (w64 (((i22 : Nat) : Int) - 1))).x0), I ((GS.at q22_0 (w64 (((i22 : Nat) : Int) - 1))).x1)])]
def l_OrdersProved_22_l_o3 (i22 : Nat) (q22_0 : GS Arr2_Int) : List Ora := [.dec false, .el (.agg [I ((GS.at q22_0 (w64 (((i22 : Nat) : Int) - 1))).x0), I ((GS.at q22_0 (w64 (((i22 : Nat) : Int) - 1))).x1)])]
theorem lp_l_OrdersProved_22 (e : S_Estate) (q10_0 : GS (GS Arr2_Int)) (q10_1 : GS Int) (va17_0 : List Arr2_Int) (q22_0 : GS Arr2_Int) (q22_1 : Int) : ∀ (rest22 : List Arr2_Int) (i22 : Nat) (hd22 : q22_0.l.drop i22 = rest22) (hi22 : i22 ≤ q22_0.l.length) (hv17 : va17_0.length ≤ 600) (hq22 : q22_0.l.length ≤ 300) (hL22 : q22_0.l.length ≤ 9223372036854775807), (lim cfg).loop 10 lp10_22 ⟨164, [(3, .sl q10_0.nl (q10_0.l.map (GS.D Arr2_Int.D 2)) (zsl q10_0.nl 1) none), (5, .sl q10_1.nl (q10_1.l.map I) (zsl q10_1.nl 1) none), (10, .sl q22_0.nl (q22_0.l.map Arr2_Int.D) (zsl q22_0.nl 2) none), (11, .lsl 0 0 va17_0.length 2 none), (66, .sl e.items.nl (e.items.l.map S_Item.D) (zsl e.items.nl 4) none), (67, I ((e.items.l.length : Nat) : Int)), (68, I q22_1), (114, .sl q22_0.nl (q22_0.l.map Arr2_Int.D) (zsl q22_0.nl 2) none), (115, I ((q22_0.l.length : Nat) : Int)), (116, I ((i22 : Nat) : Int))], [(0, ⟨va17_0.map Arr2_Int.D, 2, false⟩)], 1, 0⟩ = some (lr_l_OrdersProved_22 e q10_0 q10_1 va17_0 q22_0 q22_1 (l_OrdersProved_22 va17_0 q22_0 rest22 i22)) := by
  intro rest22
  induction rest22 with
  | nil =>
    intro i22 hd22 hi22 hv17 hq22 hL22
    unfold l_OrdersProved_22
    obtain rfl : i22 = q22_0.l.length := nil_eq hd22 hi22
    exact zF [.dec false] (And.intro (lt_no hd22) trivial) (by kernel_rfl)
  | cons x22 rest22 ih =>
    intro i22 hd22 hi22 hv17 hq22 hL22
    have hlt22 := zw hd22
    unfold l_OrdersProved_22
    have p1 := (el_at (s := q22_0) (f := Arr2_Int.D) (k := 2) hd22)
    have p2 := (And.intro (show flat fuelD (B (hasPair (GS.some va17_0) x22)) = true from (by kernel_rfl)) (And.intro (And.intro (snap_row (gO := zx [(0, ⟨va17_0.map Arr2_Int.D, 2, false⟩), (1, ⟨[.agg [I x22.x0, I x22.x1]], 2, false⟩)]) (o := 0) (len := va17_0.length) (cap := none) (fz := false) zm va17_0 (by kernel_rfl) (by first | assumption | omega)) trivial) (T_hasPair (GS.some va17_0) x22 (by first | assumption | omega | (with_reducible exact zf) | (with_reducible exact Nat.le_trans zh (by omega)) | (exact zj hi0 rfl (z6 (by simp)) (by simp)) | (exact zi (by assumption) (z6 (by omega)) (by omega)) | (exact rowsR_two hi0 rfl (zv (by decide)) (by decide)) | (exact rowsR_app (by assumption) (zv (by omega)) (by omega)) | (exact fronts_ne (by assumption)) | (simp only [zd] at * <;> omega) | (simp only [zb, z8, za, z7, zc, ze, GS.nil_len, GS.some_l, List.length_set, List.length_append, List.length_cons, List.length_nil] at * <;> first | with_reducible assumption | omega) | (simp only [zb, z8, za, z7, zc, ze, GS.nil_len, GS.some_l, List.length_set, List.length_append, List.length_cons, List.length_nil, zd] at * <;> first | with_reducible assumption | omega) | (simp at * <;> omega)))))
    cases h29 : (hasPair (GS.some va17_0) x22) with
    | true =>
      cases h30 : decide (((i22 : Nat) : Int) > 0) with
      | true =>
        have g30 := of_decide_eq_true h30
        have p3 := (el_in (s := q22_0) (f := Arr2_Int.D) (k := 2) (i := w64 (((i22 : Nat) : Int) - 1)) (by first | assumption | omega | (simp only [zd] at * <;> omega)) (by first | assumption | omega | (simp only [zd] at * <;> omega)))
        cases h31 : decide (((GS.at q22_0 (w64 (((i22 : Nat) : Int) - 1))).x0) ≥ x22.x0) with
        | true =>
          have g31 := of_decide_eq_true h31
          exact zF ((l_OrdersProved_22_l_o1 va17_0 x22) ++ ((l_OrdersProved_22_l_o2 i22 q22_0) ++ [.dec true])) (And.intro h31 (And.intro p3 (And.intro h30 (And.intro h29 (And.intro p2 (And.intro p1 (And.intro (lt_at hd22) trivial))))))) (by kernel_rfl)
        | false =>
          have g31 := of_decide_eq_false h31
          have p4 := (el_in (s := q22_0) (f := Arr2_Int.D) (k := 2) (i := w64 (((i22 : Nat) : Int) - 1)) (by first | assumption | omega) (by first | assumption | omega | (simp only [zd] at * <;> omega)))
          cases h32 : decide (((GS.at q22_0 (w64 (((i22 : Nat) : Int) - 1))).x1) ≥ x22.x1) with
          | true =>
            have g32 := of_decide_eq_true h32
            exact zF ((l_OrdersProved_22_l_o1 va17_0 x22) ++ ((l_OrdersProved_22_l_o2 i22 q22_0) ++ ((l_OrdersProved_22_l_o3 i22 q22_0) ++ [.dec true]))) (And.intro h32 (And.intro p4 (And.intro h31 (And.intro p3 (And.intro h30 (And.intro h29 (And.intro p2 (And.intro p1 (And.intro (lt_at hd22) trivial))))))))) (by kernel_rfl)
          | false =>
            have g32 := of_decide_eq_false h32
            exact po_turn' (ks := [3, 5, 10, 11, 66, 67, 68, 114, 115, 116]) (st' := (sd30168 e q10_0 q10_1 va17_0 i22 q22_0 q22_1 x22)) ((l_OrdersProved_22_l_o1 va17_0 x22) ++ ((l_OrdersProved_22_l_o2 i22 q22_0) ++ ((l_OrdersProved_22_l_o3 i22 q22_0) ++ [.dec false, .rw 151 (I ((i22 + 1 : Nat) : Int))]))) (And.intro (inc_rw (i := i22) (by have := zw hd22; omega)) (And.intro h32 (And.intro p4 (And.intro h31 (And.intro p3 (And.intro h30 (And.intro h29 (And.intro p2 (And.intro p1 (And.intro (lt_at hd22) trivial)))))))))) (by kernel_rfl) (by (simp only [sd30168, go_sem, List.length_set, Nat.reduceAdd, Nat.reduceEqDiff, Nat.reduceLT, Nat.reduceLeDiff, bI2, zm.idsL, zm.renL, zm.snapAll, zk.idsL, zk.renL, zk.snapAll, zK.idsL, zK.renL, zK.snapAll, zo.idsL, zo.renL, zo.snapAll]) <;> rfl) (ih (i22 + 1) (zH hd22) (zw hd22) (by first | assumption | omega) (by first | assumption | omega) (by first | assumption | omega)) (by kernel_rfl)
      | false =>
        have g30 := of_decide_eq_false h30
        exact po_turn' (ks := [3, 5, 10, 11, 66, 67, 68, 114, 115, 116]) (st' := (sd30169 e q10_0 q10_1 va17_0 i22 q22_0 q22_1 x22)) ((l_OrdersProved_22_l_o1 va17_0 x22) ++ [.dec true, .dec false, .rw 151 (I ((i22 + 1 : Nat) : Int))]) (And.intro (inc_rw (i := i22) (by have := zw hd22; omega)) (And.intro h30 (And.intro h29 (And.intro p2 (And.intro p1 (And.intro (lt_at hd22) trivial)))))) (by kernel_rfl) (by (simp only [sd30169, go_sem, List.length_set, Nat.reduceAdd, Nat.reduceEqDiff, Nat.reduceLT, Nat.reduceLeDiff, bI2, zm.idsL, zm.renL, zm.snapAll, zk.idsL, zk.renL, zk.snapAll, zK.idsL, zK.renL, zK.snapAll, zo.idsL, zo.renL, zo.snapAll]) <;> rfl) (ih (i22 + 1) (zH hd22) (zw hd22) (by first | assumption | omega) (by first | assumption | omega) (by first | assumption | omega)) (by kernel_rfl)
    | false =>
      exact zF ((l_OrdersProved_22_l_o1 va17_0 x22) ++ [.dec false]) (And.intro h29 (And.intro p2 (And.intro p1 (And.intro (lt_at hd22) trivial)))) (by kernel_rfl)

noncomputable def lp10_28 : Code := subC [1, 1, 1, 1, 1, 1, 0, 1, 0, 0, 1, 1, 0, 0, 1, 1, 1, 1, 1, 1, 1, 0, 0] (bodyC Try.f10)

def sd30173 (e : S_Estate) (q10_0 : GS (GS Arr2_Int)) (q10_1 : GS Int) (va17_0 : List Arr2_Int) (i28 : Nat) (q28_0 : GS Arr2_Int) (q28_1 : Int) (x28 : Arr2_Int) : St := ⟨164, [(154, I ((i28 + 1 : Nat) : Int)), (162, I ((i28 + 1 : Nat) : Int)), (161, B false), (160, B true), (159, .fn (.func 45) [] [.lref 1 0 2 0]), (158, .sl q28_0.nl (q28_0.l.map Arr2_Int.D) (zsl q28_0.nl 2) none), (17, .lref 1 0 2 0), (157, .agg [I x28.x0, I x28.x1]), (156, .lref 0 i28 2 0), (155, B true), (3, .sl q10_0.nl (q10_0.l.map (GS.D Arr2_Int.D 2)) (zsl q10_0.nl 1) none), (5, .sl q10_1.nl (q10_1.l.map I) (zsl q10_1.nl 1) none), (10, .sl q28_0.nl (q28_0.l.map Arr2_Int.D) (zsl q28_0.nl 2) none), (66, .sl e.items.nl (e.items.l.map S_Item.D) (zsl e.items.nl 4) none), (67, I ((e.items.l.length : Nat) : Int)), (68, I q28_1), (152, .lsl 0 0 va17_0.length 2 none), (153, I ((va17_0.length : Nat) : Int)), (154, I ((i28 : Nat) : Int))], [(0, ⟨va17_0.map Arr2_Int.D, 2, false⟩), (1, ⟨[.agg [I x28.x0, I x28.x1]], 2, false⟩)], 2, 0⟩

inductive LR_l_OrdersProved_28 where
  | x0
  | x1 (i28 : Nat) (x28 : Arr2_Int) (va17_0 : List Arr2_Int)
instance : Inhabited LR_l_OrdersProved_28 := ⟨.x0⟩
def l_OrdersProved_28 (va17_0 : List Arr2_Int) (q28_0 : GS Arr2_Int) : List Arr2_Int → Nat → LR_l_OrdersProved_28
  | [], i28 => .x0
  | x28 :: rest28, i28 =>
    bif (hasDom q28_0 x28) then
      l_OrdersProved_28 va17_0 q28_0 rest28 (i28 + 1)
    else
      .x1 i28 x28 va17_0
def lr_l_OrdersProved_28 (e : S_Estate) (q10_0 : GS (GS Arr2_Int)) (q10_1 : GS Int) (va17_0 : List Arr2_Int) (q28_0 : GS Arr2_Int) (q28_1 : Int) : LR_l_OrdersProved_28 → Exit × St
  | .x0 => ((.exit 6), ⟨164, [(155, B false), (3, .sl q10_0.nl (q10_0.l.map (GS.D Arr2_Int.D 2)) (zsl q10_0.nl 1) none), (5, .sl q10_1.nl (q10_1.l.map I) (zsl q10_1.nl 1) none), (10, .sl q28_0.nl (q28_0.l.map Arr2_Int.D) (zsl q28_0.nl 2) none), (66, .sl e.items.nl (e.items.l.map S_Item.D) (zsl e.items.nl 4) none), (67, I ((e.items.l.length : Nat) : Int)), (68, I q28_1), (152, .lsl 0 0 va17_0.length 2 none), (153, I ((va17_0.length : Nat) : Int)), (154, I ((va17_0.length : Nat) : Int))], [(0, ⟨va17_0.map Arr2_Int.D, 2, false⟩)], 1, 0⟩)
  | .x1 i28 x28 va17_0 => (.ret, ⟨164, [(2, B false), (161, B true), (160, B false), (159, .fn (.func 45) [] [.lref 1 0 2 0]), (158, .sl q28_0.nl (q28_0.l.map Arr2_Int.D) (zsl q28_0.nl 2) none), (17, .lref 1 0 2 0), (157, .agg [I x28.x0, I x28.x1]), (156, .lref 0 i28 2 0), (155, B true), (3, .sl q10_0.nl (q10_0.l.map (GS.D Arr2_Int.D 2)) (zsl q10_0.nl 1) none), (5, .sl q10_1.nl (q10_1.l.map I) (zsl q10_1.nl 1) none), (10, .sl q28_0.nl (q28_0.l.map Arr2_Int.D) (zsl q28_0.nl 2) none), (66, .sl e.items.nl (e.items.l.map S_Item.D) (zsl e.items.nl 4) none), (67, I ((e.items.l.length : Nat) : Int)), (68, I q28_1), (152, .lsl 0 0 va17_0.length 2 none), (153, I ((va17_0.length : Nat) : Int)), (154, I ((i28 : Nat) : Int))], [(0, ⟨va17_0.map Arr2_Int.D, 2, false⟩), (1, ⟨[.agg [I x28.x0, I x28.x1]], 2, false⟩)], 2, 0⟩)
theorem lp_l_OrdersProved_28 (e : S_Estate) (q10_0 : GS (GS Arr2_Int)) (q10_1 : GS Int) (va17_0 : List Arr2_Int) (q28_0 : GS Arr2_Int) (q28_1 : Int) : ∀ (rest28 : List Arr2_Int) (i28 : Nat) (hd28 : va17_0.drop i28 = rest28) (hi28 : i28 ≤ va17_0.length) (hv17 : va17_0.length ≤ 600) (hq28 : q28_0.l.length ≤ 300) (hL28 : va17_0.length ≤ 9223372036854775807), (lim cfg).loop 10 lp10_28 ⟨164, [(3, .sl q10_0.nl (q10_0.l.map (GS.D Arr2_Int.D 2)) (zsl q10_0.nl 1) none), (5, .sl q10_1.nl (q10_1.l.map I) (zsl q10_1.nl 1) none), (10, .sl q28_0.nl (q28_0.l.map Arr2_Int.D) (zsl q28_0.nl 2) none), (66, .sl e.items.nl (e.items.l.map S_Item.D) (zsl e.items.nl 4) none), (67, I ((e.items.l.length : Nat) : Int)), (68, I q28_1), (152, .lsl 0 0 va17_0.length 2 none), (153, I ((va17_0.length : Nat) : Int)), (154, I ((i28 : Nat) : Int))], [(0, ⟨va17_0.map Arr2_Int.D, 2, false⟩)], 1, 0⟩ = some (lr_l_OrdersProved_28 e q10_0 q10_1 va17_0 q28_0 q28_1 (l_OrdersProved_28 va17_0 q28_0 rest28 i28)) := by
  intro rest28
  induction rest28 with
  | nil =>
    intro i28 hd28 hi28 hv17 hq28 hL28
    unfold l_OrdersProved_28
    obtain rfl : i28 = va17_0.length := nil_eq hd28 hi28
    exact zF [.dec false] (And.intro (lt_no hd28) trivial) (by kernel_rfl)
  | cons x28 rest28 ih =>
    intro i28 hd28 hi28 hv17 hq28 hL28
    have hlt28 := zw hd28
    unfold l_OrdersProved_28
    cases h35 : (hasDom q28_0 x28) with
    | true =>
      exact po_turn' (ks := [3, 5, 10, 66, 67, 68, 152, 153, 154]) (st' := (sd30173 e q10_0 q10_1 va17_0 i28 q28_0 q28_1 x28)) [.dec true, .op (some 156) ⟨.lref 0 i28 2 0, [], [], 1⟩, .op (some 157) ⟨.agg [I x28.x0, I x28.x1], [], [0], 1⟩, .pure (B (hasDom q28_0 x28)), .dec true, .rw 162 (I ((i28 + 1 : Nat) : Int))] (And.intro (inc_rw (i := i28) (by have := zw hd28; omega)) (And.intro h35 (And.intro (T_hasDom q28_0 x28 (by first | assumption | omega)) (And.intro (load_row (C := cfg) (objs := [(0, ⟨va17_0.map Arr2_Int.D, 2, false⟩)]) (nxt := 1) (t := 47) (ty := ty47) (o := 0) (n := i28) (sz := 2) (sub := 0) (ob := ⟨va17_0.map Arr2_Int.D, 2, false⟩) (e := Arr2_Int.D x28) (d := .agg [I x28.x0, I x28.x1]) (by kernel_rfl) (by kernel_rfl) rfl (row_at (f := Arr2_Int.D) hd28) (by kernel_rfl)) (And.intro (idx_row (C := cfg) (nxt := 1) (t := 29) (ty := ty29) (te := ty47) (e := 47) (o := 0) (len := va17_0.length) (sz := 2) (cap := none) (i := ((i28 : Nat) : Int)) (by kernel_rfl) rfl (by kernel_rfl) rfl (by first | assumption | omega) (by first | assumption | omega)) (And.intro (lt_at hd28) trivial)))))) (by kernel_rfl) (by (simp only [sd30173, go_sem, List.length_set, Nat.reduceAdd, Nat.reduceEqDiff, Nat.reduceLT, Nat.reduceLeDiff, bI2, zm.idsL, zm.renL, zm.snapAll, zk.idsL, zk.renL, zk.snapAll, zK.idsL, zK.renL, zK.snapAll, zo.idsL, zo.renL, zo.snapAll]) <;> rfl) (ih (i28 + 1) (zH hd28) (zw hd28) (by first | assumption | omega) (by first | assumption | omega) (by first | assumption | omega)) (by kernel_rfl)
    | false =>
      exact zF [.dec true, .op (some 156) ⟨.lref 0 i28 2 0, [], [], 1⟩, .op (some 157) ⟨.agg [I x28.x0, I x28.x1], [], [0], 1⟩, .pure (B (hasDom q28_0 x28)), .dec false] (And.intro h35 (And.intro (T_hasDom q28_0 x28 (by first | assumption | omega)) (And.intro (load_row (C := cfg) (objs := [(0, ⟨va17_0.map Arr2_Int.D, 2, false⟩)]) (nxt := 1) (t := 47) (ty := ty47) (o := 0) (n := i28) (sz := 2) (sub := 0) (ob := ⟨va17_0.map Arr2_Int.D, 2, false⟩) (e := Arr2_Int.D x28) (d := .agg [I x28.x0, I x28.x1]) (by kernel_rfl) (by kernel_rfl) rfl (row_at (f := Arr2_Int.D) hd28) (by kernel_rfl)) (And.intro (idx_row (C := cfg) (nxt := 1) (t := 29) (ty := ty29) (te := ty47) (e := 47) (o := 0) (len := va17_0.length) (sz := 2) (cap := none) (i := ((i28 : Nat) : Int)) (by kernel_rfl) rfl (by kernel_rfl) rfl (by first | assumption | omega) (by first | assumption | omega)) (And.intro (lt_at hd28) trivial))))) (by kernel_rfl)

def sd30167 (e : S_Estate) (i10 : Nat) (q10_0 : GS (GS Arr2_Int)) (q10_1 : GS Int) (x10 : S_Item) (va17_0 : List Arr2_Int) : St := ⟨164, [(93, B false), (3, .sl q10_0.nl (q10_0.l.map (GS.D Arr2_Int.D 2)) (zsl q10_0.nl 1) none), (5, .sl q10_1.nl (q10_1.l.map I) (zsl q10_1.nl 1) none), (7, I ((i10 : Nat) : Int)), (8, .lref 0 0 4 0), (10, .sl ((GS.at q10_0 ((i10 + 1 : Nat) : Int)).nl) (((GS.at q10_0 ((i10 + 1 : Nat) : Int)).l).map Arr2_Int.D) (zsl ((GS.at q10_0 ((i10 + 1 : Nat) : Int)).nl) 2) none), (11, .lsl 1 0 va17_0.length 2 none), (66, .sl e.items.nl (e.items.l.map S_Item.D) (zsl e.items.nl 4) none), (67, I ((e.items.l.length : Nat) : Int)), (68, I ((i10 : Nat) : Int)), (90, .sl ((GS.at q10_0 ((i10 : Nat) : Int)).nl) (((GS.at q10_0 ((i10 : Nat) : Int)).l).map Arr2_Int.D) (zsl ((GS.at q10_0 ((i10 : Nat) : Int)).nl) 2) none), (91, I (((GS.at q10_0 ((i10 : Nat) : Int)).l.length : Nat) : Int)), (92, I (((GS.at q10_0 ((i10 : Nat) : Int)).l.length : Nat) : Int))], [(0, ⟨[.agg [I x10.now.lo, I x10.now.hi, I x10.cost, I x10.error]], 4, false⟩), (1, ⟨va17_0.map Arr2_Int.D, 2, false⟩)], 2, 0⟩

noncomputable def lp10_10 : Code := subC [1, 1, 1, 1, 1, 1, 0, 1, 0, 0] (bodyC Try.f10)

def sd30170 (e : S_Estate) (i10 : Nat) (q10_0 : GS (GS Arr2_Int)) (q10_1 : GS Int) (x10 : S_Item) (va17_0 : List Arr2_Int) : St := ⟨164, [(116, I 0), (115, I (((GS.at q10_0 ((i10 + 1 : Nat) : Int)).l.length : Nat) : Int)), (114, .sl ((GS.at q10_0 ((i10 + 1 : Nat) : Int)).nl) (((GS.at q10_0 ((i10 + 1 : Nat) : Int)).l).map Arr2_Int.D) (zsl ((GS.at q10_0 ((i10 + 1 : Nat) : Int)).nl) 2) none), (93, B false), (3, .sl q10_0.nl (q10_0.l.map (GS.D Arr2_Int.D 2)) (zsl q10_0.nl 1) none), (5, .sl q10_1.nl (q10_1.l.map I) (zsl q10_1.nl 1) none), (7, I ((i10 : Nat) : Int)), (8, .lref 0 0 4 0), (10, .sl ((GS.at q10_0 ((i10 + 1 : Nat) : Int)).nl) (((GS.at q10_0 ((i10 + 1 : Nat) : Int)).l).map Arr2_Int.D) (zsl ((GS.at q10_0 ((i10 + 1 : Nat) : Int)).nl) 2) none), (11, .lsl 1 0 va17_0.length 2 none), (66, .sl e.items.nl (e.items.l.map S_Item.D) (zsl e.items.nl 4) none), (67, I ((e.items.l.length : Nat) : Int)), (68, I ((i10 : Nat) : Int)), (90, .sl ((GS.at q10_0 ((i10 : Nat) : Int)).nl) (((GS.at q10_0 ((i10 : Nat) : Int)).l).map Arr2_Int.D) (zsl ((GS.at q10_0 ((i10 : Nat) : Int)).nl) 2) none), (91, I (((GS.at q10_0 ((i10 : Nat) : Int)).l.length : Nat) : Int)), (92, I (((GS.at q10_0 ((i10 : Nat) : Int)).l.length : Nat) : Int))], [(0, ⟨[.agg [I x10.now.lo, I x10.now.hi, I x10.cost, I x10.error]], 4, false⟩), (1, ⟨va17_0.map Arr2_Int.D, 2, false⟩)], 2, 0⟩

def sd30171 (e : S_Estate) (i10 : Nat) (q10_0 : GS (GS Arr2_Int)) (q10_1 : GS Int) (va17_0 : List Arr2_Int) : St := ⟨164, [(3, .sl q10_0.nl (q10_0.l.map (GS.D Arr2_Int.D 2)) (zsl q10_0.nl 1) none), (5, .sl q10_1.nl (q10_1.l.map I) (zsl q10_1.nl 1) none), (10, .sl ((GS.at q10_0 ((i10 + 1 : Nat) : Int)).nl) (((GS.at q10_0 ((i10 + 1 : Nat) : Int)).l).map Arr2_Int.D) (zsl ((GS.at q10_0 ((i10 + 1 : Nat) : Int)).nl) 2) none), (11, .lsl 0 0 va17_0.length 2 none), (66, .sl e.items.nl (e.items.l.map S_Item.D) (zsl e.items.nl 4) none), (67, I ((e.items.l.length : Nat) : Int)), (68, I ((i10 : Nat) : Int)), (114, .sl ((GS.at q10_0 ((i10 + 1 : Nat) : Int)).nl) (((GS.at q10_0 ((i10 + 1 : Nat) : Int)).l).map Arr2_Int.D) (zsl ((GS.at q10_0 ((i10 + 1 : Nat) : Int)).nl) 2) none), (115, I (((GS.at q10_0 ((i10 + 1 : Nat) : Int)).l.length : Nat) : Int)), (116, I 0)], [(0, ⟨va17_0.map Arr2_Int.D, 2, false⟩)], 1, 0⟩

def sd30174 (e : S_Estate) (i10 : Nat) (q10_0 : GS (GS Arr2_Int)) (q10_1 : GS Int) (va17_0 : List Arr2_Int) : St := ⟨164, [(154, I 0), (153, I ((va17_0.length : Nat) : Int)), (152, .lsl 0 0 va17_0.length 2 none), (117, B false), (3, .sl q10_0.nl (q10_0.l.map (GS.D Arr2_Int.D 2)) (zsl q10_0.nl 1) none), (5, .sl q10_1.nl (q10_1.l.map I) (zsl q10_1.nl 1) none), (10, .sl ((GS.at q10_0 ((i10 + 1 : Nat) : Int)).nl) (((GS.at q10_0 ((i10 + 1 : Nat) : Int)).l).map Arr2_Int.D) (zsl ((GS.at q10_0 ((i10 + 1 : Nat) : Int)).nl) 2) none), (11, .lsl 0 0 va17_0.length 2 none), (66, .sl e.items.nl (e.items.l.map S_Item.D) (zsl e.items.nl 4) none), (67, I ((e.items.l.length : Nat) : Int)), (68, I ((i10 : Nat) : Int)), (114, .sl ((GS.at q10_0 ((i10 + 1 : Nat) : Int)).nl) (((GS.at q10_0 ((i10 + 1 : Nat) : Int)).l).map Arr2_Int.D) (zsl ((GS.at q10_0 ((i10 + 1 : Nat) : Int)).nl) 2) none), (115, I (((GS.at q10_0 ((i10 + 1 : Nat) : Int)).l.length : Nat) : Int)), (116, I (((GS.at q10_0 ((i10 + 1 : Nat) : Int)).l.length : Nat) : Int))], [(0, ⟨va17_0.map Arr2_Int.D, 2, false⟩)], 1, 0⟩

def sd30175 (e : S_Estate) (i10 : Nat) (q10_0 : GS (GS Arr2_Int)) (q10_1 : GS Int) (va17_0 : List Arr2_Int) : St := ⟨164, [(3, .sl q10_0.nl (q10_0.l.map (GS.D Arr2_Int.D 2)) (zsl q10_0.nl 1) none), (5, .sl q10_1.nl (q10_1.l.map I) (zsl q10_1.nl 1) none), (10, .sl ((GS.at q10_0 ((i10 + 1 : Nat) : Int)).nl) (((GS.at q10_0 ((i10 + 1 : Nat) : Int)).l).map Arr2_Int.D) (zsl ((GS.at q10_0 ((i10 + 1 : Nat) : Int)).nl) 2) none), (66, .sl e.items.nl (e.items.l.map S_Item.D) (zsl e.items.nl 4) none), (67, I ((e.items.l.length : Nat) : Int)), (68, I ((i10 : Nat) : Int)), (152, .lsl 0 0 va17_0.length 2 none), (153, I ((va17_0.length : Nat) : Int)), (154, I 0)], [(0, ⟨va17_0.map Arr2_Int.D, 2, false⟩)], 1, 0⟩

def sd30182 (e : S_Estate) (i10 : Nat) (q10_0 : GS (GS Arr2_Int)) (q10_1 : GS Int) (va17_0 : List Arr2_Int) : St := ⟨164, [(68, I ((i10 + 1 : Nat) : Int)), (163, I ((i10 + 1 : Nat) : Int)), (155, B false), (3, .sl q10_0.nl (q10_0.l.map (GS.D Arr2_Int.D 2)) (zsl q10_0.nl 1) none), (5, .sl q10_1.nl (q10_1.l.map I) (zsl q10_1.nl 1) none), (10, .sl ((GS.at q10_0 ((i10 + 1 : Nat) : Int)).nl) (((GS.at q10_0 ((i10 + 1 : Nat) : Int)).l).map Arr2_Int.D) (zsl ((GS.at q10_0 ((i10 + 1 : Nat) : Int)).nl) 2) none), (66, .sl e.items.nl (e.items.l.map S_Item.D) (zsl e.items.nl 4) none), (67, I ((e.items.l.length : Nat) : Int)), (68, I ((i10 : Nat) : Int)), (152, .lsl 0 0 va17_0.length 2 none), (153, I ((va17_0.length : Nat) : Int)), (154, I ((va17_0.length : Nat) : Int))], [(0, ⟨va17_0.map Arr2_Int.D, 2, false⟩)], 1, 0⟩

def sd30172 (e : S_Estate) (i10 : Nat) (q10_0 : GS (GS Arr2_Int)) (q10_1 : GS Int) (va17_0 : List Arr2_Int) : St := ⟨164, [(117, B false), (3, .sl q10_0.nl (q10_0.l.map (GS.D Arr2_Int.D 2)) (zsl q10_0.nl 1) none), (5, .sl q10_1.nl (q10_1.l.map I) (zsl q10_1.nl 1) none), (10, .sl ((GS.at q10_0 ((i10 + 1 : Nat) : Int)).nl) (((GS.at q10_0 ((i10 + 1 : Nat) : Int)).l).map Arr2_Int.D) (zsl ((GS.at q10_0 ((i10 + 1 : Nat) : Int)).nl) 2) none), (11, .lsl 0 0 va17_0.length 2 none), (66, .sl e.items.nl (e.items.l.map S_Item.D) (zsl e.items.nl 4) none), (67, I ((e.items.l.length : Nat) : Int)), (68, I ((i10 : Nat) : Int)), (114, .sl ((GS.at q10_0 ((i10 + 1 : Nat) : Int)).nl) (((GS.at q10_0 ((i10 + 1 : Nat) : Int)).l).map Arr2_Int.D) (zsl ((GS.at q10_0 ((i10 + 1 : Nat) : Int)).nl) 2) none), (115, I (((GS.at q10_0 ((i10 + 1 : Nat) : Int)).l.length : Nat) : Int)), (116, I (((GS.at q10_0 ((i10 + 1 : Nat) : Int)).l.length : Nat) : Int))], [(0, ⟨va17_0.map Arr2_Int.D, 2, false⟩)], 1, 0⟩

def sd30176 (e : S_Estate) (i10 : Nat) (q10_0 : GS (GS Arr2_Int)) (q10_1 : GS Int) (va17_0 : List Arr2_Int) : St := ⟨164, [(155, B false), (3, .sl q10_0.nl (q10_0.l.map (GS.D Arr2_Int.D 2)) (zsl q10_0.nl 1) none), (5, .sl q10_1.nl (q10_1.l.map I) (zsl q10_1.nl 1) none), (10, .sl ((GS.at q10_0 ((i10 + 1 : Nat) : Int)).nl) (((GS.at q10_0 ((i10 + 1 : Nat) : Int)).l).map Arr2_Int.D) (zsl ((GS.at q10_0 ((i10 + 1 : Nat) : Int)).nl) 2) none), (66, .sl e.items.nl (e.items.l.map S_Item.D) (zsl e.items.nl 4) none), (67, I ((e.items.l.length : Nat) : Int)), (68, I ((i10 : Nat) : Int)), (152, .lsl 0 0 va17_0.length 2 none), (153, I ((va17_0.length : Nat) : Int)), (154, I ((va17_0.length : Nat) : Int))], [(0, ⟨va17_0.map Arr2_Int.D, 2, false⟩)], 1, 0⟩

def sd30181 (e : S_Estate) (i10 : Nat) (q10_0 : GS (GS Arr2_Int)) (q10_1 : GS Int) (i28 : Nat) (x28 : Arr2_Int) (va17_0_1 : List Arr2_Int) : St := ⟨164, [(2, B false), (161, B true), (160, B false), (159, .fn (.func 45) [] [.lref 1 0 2 0]), (158, .sl ((GS.at q10_0 ((i10 + 1 : Nat) : Int)).nl) (((GS.at q10_0 ((i10 + 1 : Nat) : Int)).l).map Arr2_Int.D) (zsl ((GS.at q10_0 ((i10 + 1 : Nat) : Int)).nl) 2) none), (17, .lref 1 0 2 0), (157, .agg [I x28.x0, I x28.x1]), (156, .lref 0 i28 2 0), (155, B true), (3, .sl q10_0.nl (q10_0.l.map (GS.D Arr2_Int.D 2)) (zsl q10_0.nl 1) none), (5, .sl q10_1.nl (q10_1.l.map I) (zsl q10_1.nl 1) none), (10, .sl ((GS.at q10_0 ((i10 + 1 : Nat) : Int)).nl) (((GS.at q10_0 ((i10 + 1 : Nat) : Int)).l).map Arr2_Int.D) (zsl ((GS.at q10_0 ((i10 + 1 : Nat) : Int)).nl) 2) none), (66, .sl e.items.nl (e.items.l.map S_Item.D) (zsl e.items.nl 4) none), (67, I ((e.items.l.length : Nat) : Int)), (68, I ((i10 : Nat) : Int)), (152, .lsl 0 0 va17_0_1.length 2 none), (153, I ((va17_0_1.length : Nat) : Int)), (154, I ((i28 : Nat) : Int))], [(0, ⟨va17_0_1.map Arr2_Int.D, 2, false⟩), (1, ⟨[.agg [I x28.x0, I x28.x1]], 2, false⟩)], 2, 0⟩

def sd30178 (e : S_Estate) (i10 : Nat) (q10_0 : GS (GS Arr2_Int)) (q10_1 : GS Int) (i22 : Nat) (x22 : Arr2_Int) (va17_0_1 : List Arr2_Int) : St := ⟨164, [(2, B false), (150, B true), (149, B true), (148, B true), (147, .tup []), (146, .tup []), (145, .tup []), (144, .tup []), (143, .tup []), (142, .tup []), (141, .tup []), (140, .tup []), (139, .tup []), (138, B true), (137, B true), (136, I x22.x0), (135, .lref 1 0 2 0), (134, I ((GS.at (GS.at q10_0 ((i10 + 1 : Nat) : Int)) (w64 (((i22 : Nat) : Int) - 1))).x0)), (133, .ptr (I ((GS.at (GS.at q10_0 ((i10 + 1 : Nat) : Int)) (w64 (((i22 : Nat) : Int) - 1))).x0))), (132, .ptr (.agg [I ((GS.at (GS.at q10_0 ((i10 + 1 : Nat) : Int)) (w64 (((i22 : Nat) : Int) - 1))).x0), I ((GS.at (GS.at q10_0 ((i10 + 1 : Nat) : Int)) (w64 (((i22 : Nat) : Int) - 1))).x1)])), (131, I (w64 (((i22 : Nat) : Int) - 1))), (130, I ((i22 : Nat) : Int)), (129, .sl ((GS.at q10_0 ((i10 + 1 : Nat) : Int)).nl) (((GS.at q10_0 ((i10 + 1 : Nat) : Int)).l).map Arr2_Int.D) (zsl ((GS.at q10_0 ((i10 + 1 : Nat) : Int)).nl) 2) none), (128, B true), (127, B true), (126, I ((i22 : Nat) : Int)), (125, B false), (124, B false), (123, B true), (122, .agg [I x22.x0, I x22.x1]), (121, .lsl 0 0 va17_0_1.length 2 none), (14, I ((i22 : Nat) : Int)), (15, .lref 1 0 2 0), (120, .agg [I x22.x0, I x22.x1]), (119, .ptr (.agg [I x22.x0, I x22.x1])), (118, I ((i22 : Nat) : Int)), (117, B true), (3, .sl q10_0.nl (q10_0.l.map (GS.D Arr2_Int.D 2)) (zsl q10_0.nl 1) none), (5, .sl q10_1.nl (q10_1.l.map I) (zsl q10_1.nl 1) none), (10, .sl ((GS.at q10_0 ((i10 + 1 : Nat) : Int)).nl) (((GS.at q10_0 ((i10 + 1 : Nat) : Int)).l).map Arr2_Int.D) (zsl ((GS.at q10_0 ((i10 + 1 : Nat) : Int)).nl) 2) none), (11, .lsl 0 0 va17_0_1.length 2 none), (66, .sl e.items.nl (e.items.l.map S_Item.D) (zsl e.items.nl 4) none), (67, I ((e.items.l.length : Nat) : Int)), (68, I ((i10 : Nat) : Int)), (114, .sl ((GS.at q10_0 ((i10 + 1 : Nat) : Int)).nl) (((GS.at q10_0 ((i10 + 1 : Nat) : Int)).l).map Arr2_Int.D) (zsl ((GS.at q10_0 ((i10 + 1 : Nat) : Int)).nl) 2) none), (115, I (((GS.at q10_0 ((i10 + 1 : Nat) : Int)).l.length : Nat) : Int)), (116, I ((i22 : Nat) : Int))], [(0, ⟨va17_0_1.map Arr2_Int.D, 2, false⟩), (1, ⟨[.agg [I x22.x0, I x22.x1]], 2, false⟩)], 2, 0⟩

def sd30179 (e : S_Estate) (i10 : Nat) (q10_0 : GS (GS Arr2_Int)) (q10_1 : GS Int) (i22 : Nat) (x22 : Arr2_Int) (va17_0_1 : List Arr2_Int) : St := ⟨164, [(2, B false), (150, B true), (149, B true), (148, B true), (147, B true), (146, I x22.x1), (145, .lref 1 0 2 1), (144, I ((GS.at (GS.at q10_0 ((i10 + 1 : Nat) : Int)) (w64 (((i22 : Nat) : Int) - 1))).x1)), (143, .ptr (I ((GS.at (GS.at q10_0 ((i10 + 1 : Nat) : Int)) (w64 (((i22 : Nat) : Int) - 1))).x1))), (142, .ptr (.agg [I ((GS.at (GS.at q10_0 ((i10 + 1 : Nat) : Int)) (w64 (((i22 : Nat) : Int) - 1))).x0), I ((GS.at (GS.at q10_0 ((i10 + 1 : Nat) : Int)) (w64 (((i22 : Nat) : Int) - 1))).x1)])), (141, I (w64 (((i22 : Nat) : Int) - 1))), (140, I ((i22 : Nat) : Int)), (139, .sl ((GS.at q10_0 ((i10 + 1 : Nat) : Int)).nl) (((GS.at q10_0 ((i10 + 1 : Nat) : Int)).l).map Arr2_Int.D) (zsl ((GS.at q10_0 ((i10 + 1 : Nat) : Int)).nl) 2) none), (138, B false), (137, B false), (136, I x22.x0), (135, .lref 1 0 2 0), (134, I ((GS.at (GS.at q10_0 ((i10 + 1 : Nat) : Int)) (w64 (((i22 : Nat) : Int) - 1))).x0)), (133, .ptr (I ((GS.at (GS.at q10_0 ((i10 + 1 : Nat) : Int)) (w64 (((i22 : Nat) : Int) - 1))).x0))), (132, .ptr (.agg [I ((GS.at (GS.at q10_0 ((i10 + 1 : Nat) : Int)) (w64 (((i22 : Nat) : Int) - 1))).x0), I ((GS.at (GS.at q10_0 ((i10 + 1 : Nat) : Int)) (w64 (((i22 : Nat) : Int) - 1))).x1)])), (131, I (w64 (((i22 : Nat) : Int) - 1))), (130, I ((i22 : Nat) : Int)), (129, .sl ((GS.at q10_0 ((i10 + 1 : Nat) : Int)).nl) (((GS.at q10_0 ((i10 + 1 : Nat) : Int)).l).map Arr2_Int.D) (zsl ((GS.at q10_0 ((i10 + 1 : Nat) : Int)).nl) 2) none), (128, B true), (127, B true), (126, I ((i22 : Nat) : Int)), (125, B false), (124, B false), (123, B true), (122, .agg [I x22.x0, I x22.x1]), (121, .lsl 0 0 va17_0_1.length 2 none), (14, I ((i22 : Nat) : Int)), (15, .lref 1 0 2 0), (120, .agg [I x22.x0, I x22.x1]), (119, .ptr (.agg [I x22.x0, I x22.x1])), (118, I ((i22 : Nat) : Int)), (117, B true), (3, .sl q10_0.nl (q10_0.l.map (GS.D Arr2_Int.D 2)) (zsl q10_0.nl 1) none), (5, .sl q10_1.nl (q10_1.l.map I) (zsl q10_1.nl 1) none), (10, .sl ((GS.at q10_0 ((i10 + 1 : Nat) : Int)).nl) (((GS.at q10_0 ((i10 + 1 : Nat) : Int)).l).map Arr2_Int.D) (zsl ((GS.at q10_0 ((i10 + 1 : Nat) : Int)).nl) 2) none), (11, .lsl 0 0 va17_0_1.length 2 none), (66, .sl e.items.nl (e.items.l.map S_Item.D) (zsl e.items.nl 4) none), (67, I ((e.items.l.length : Nat) : Int)), (68, I ((i10 : Nat) : Int)), (114, .sl ((GS.at q10_0 ((i10 + 1 : Nat) : Int)).nl) (((GS.at q10_0 ((i10 + 1 : Nat) : Int)).l).map Arr2_Int.D) (zsl ((GS.at q10_0 ((i10 + 1 : Nat) : Int)).nl) 2) none), (115, I (((GS.at q10_0 ((i10 + 1 : Nat) : Int)).l.length : Nat) : Int)), (116, I ((i22 : Nat) : Int))], [(0, ⟨va17_0_1.map Arr2_Int.D, 2, false⟩), (1, ⟨[.agg [I x22.x0, I x22.x1]], 2, false⟩)], 2, 0⟩

def sd30180 (e : S_Estate) (i10 : Nat) (q10_0 : GS (GS Arr2_Int)) (q10_1 : GS Int) (i22 : Nat) (x22 : Arr2_Int) (va17_0_1 : List Arr2_Int) : St := ⟨164, [(2, B false), (150, B true), (149, .tup []), (148, .tup []), (147, .tup []), (146, .tup []), (145, .tup []), (144, .tup []), (143, .tup []), (142, .tup []), (141, .tup []), (140, .tup []), (139, .tup []), (138, .tup []), (137, .tup []), (136, .tup []), (135, .tup []), (134, .tup []), (133, .tup []), (132, .tup []), (131, .tup []), (130, .tup []), (129, .tup []), (128, .tup []), (127, .tup []), (126, .tup []), (125, B true), (124, B true), (123, B false), (122, .agg [I x22.x0, I x22.x1]), (121, .lsl 0 0 va17_0_1.length 2 none), (14, I ((i22 : Nat) : Int)), (15, .lref 1 0 2 0), (120, .agg [I x22.x0, I x22.x1]), (119, .ptr (.agg [I x22.x0, I x22.x1])), (118, I ((i22 : Nat) : Int)), (117, B true), (3, .sl q10_0.nl (q10_0.l.map (GS.D Arr2_Int.D 2)) (zsl q10_0.nl 1) none), (5, .sl q10_1.nl (q10_1.l.map I) (zsl q10_1.nl 1) none), (10, .sl ((GS.at q10_0 ((i10 + 1 : Nat) : Int)).nl) (((GS.at q10_0 ((i10 + 1 : Nat) : Int)).l).map Arr2_Int.D) (zsl ((GS.at q10_0 ((i10 + 1 : Nat) : Int)).nl) 2) none), (11, .lsl 0 0 va17_0_1.length 2 none), (66, .sl e.items.nl (e.items.l.map S_Item.D) (zsl e.items.nl 4) none), (67, I ((e.items.l.length : Nat) : Int)), (68, I ((i10 : Nat) : Int)), (114, .sl ((GS.at q10_0 ((i10 + 1 : Nat) : Int)).nl) (((GS.at q10_0 ((i10 + 1 : Nat) : Int)).l).map Arr2_Int.D) (zsl ((GS.at q10_0 ((i10 + 1 : Nat) : Int)).nl) 2) none), (115, I (((GS.at q10_0 ((i10 + 1 : Nat) : Int)).l.length : Nat) : Int)), (116, I ((i22 : Nat) : Int))], [(0, ⟨va17_0_1.map Arr2_Int.D, 2, false⟩), (1, ⟨[.agg [I x22.x0, I x22.x1]], 2, false⟩)], 2, 0⟩

inductive LR_l_OrdersProved_10 where
  | x0
  | x1 (i10 : Nat) (x10 : S_Item)
  | x2 (i10 : Nat) (x10 : S_Item)
  | x3 (i10 : Nat) (i28 : Nat) (x28 : Arr2_Int) (va17_0_1 : List Arr2_Int)
  | x4 (i10 : Nat) (i22 : Nat) (x22 : Arr2_Int) (va17_0_1 : List Arr2_Int)
  | x5 (i10 : Nat) (i22 : Nat) (x22 : Arr2_Int) (va17_0_1 : List Arr2_Int)
  | x6 (i10 : Nat) (i22 : Nat) (x22 : Arr2_Int) (va17_0_1 : List Arr2_Int)
instance : Inhabited LR_l_OrdersProved_10 := ⟨.x0⟩
def l_OrdersProved_10 (q10_0 : GS (GS Arr2_Int)) (q10_1 : GS Int) : List S_Item → Nat → LR_l_OrdersProved_10
  | [], i10 => .x0
  | x10 :: rest10, i10 =>
    bif decide ((((GS.at q10_0 ((i10 : Nat) : Int)).l.length : Nat) : Int) > 300) then
      .x1 i10 x10
    else
      bif decide ((((GS.at q10_0 ((i10 + 1 : Nat) : Int)).l.length : Nat) : Int) > 300) then
        .x2 i10 x10
      else
        match l_OrdersProved_17 q10_1 x10 ((i10 : Nat) : Int) ((GS.at q10_0 ((i10 : Nat) : Int)).l) with
        | .x0 va17_0 =>
          match l_OrdersProved_22 va17_0 (GS.at q10_0 ((i10 + 1 : Nat) : Int)) ((GS.at q10_0 ((i10 + 1 : Nat) : Int)).l) 0 with
          | .x0 =>
            match l_OrdersProved_28 va17_0 (GS.at q10_0 ((i10 + 1 : Nat) : Int)) va17_0 0 with
            | .x0 =>
              l_OrdersProved_10 q10_0 q10_1 rest10 (i10 + 1)
            | .x1 i28 x28 va17_0_1 =>
              .x3 i10 i28 x28 va17_0_1
          | .x1 i22 x22 va17_0_1 =>
            .x4 i10 i22 x22 va17_0_1
          | .x2 i22 x22 va17_0_1 =>
            .x5 i10 i22 x22 va17_0_1
          | .x3 i22 x22 va17_0_1 =>
            .x6 i10 i22 x22 va17_0_1
        | .x1 =>
          default
def lr_l_OrdersProved_10 (e : S_Estate) (q10_0 : GS (GS Arr2_Int)) (q10_1 : GS Int) : LR_l_OrdersProved_10 → Exit × St
  | .x0 => ((.exit 0), ⟨164, [(69, B false), (3, .sl q10_0.nl (q10_0.l.map (GS.D Arr2_Int.D 2)) (zsl q10_0.nl 1) none), (5, .sl q10_1.nl (q10_1.l.map I) (zsl q10_1.nl 1) none), (66, .sl e.items.nl (e.items.l.map S_Item.D) (zsl e.items.nl 4) none), (67, I ((e.items.l.length : Nat) : Int)), (68, I ((e.items.l.length : Nat) : Int))], [], 0, 0⟩)
  | .x1 i10 x10 => (.ret, ⟨164, [(2, B true), (89, B true), (88, .tup []), (87, .tup []), (86, .tup []), (85, B true), (84, B true), (83, I (((GS.at q10_0 ((i10 : Nat) : Int)).l.length : Nat) : Int)), (82, .sl ((GS.at q10_0 ((i10 : Nat) : Int)).nl) (((GS.at q10_0 ((i10 : Nat) : Int)).l).map Arr2_Int.D) (zsl ((GS.at q10_0 ((i10 : Nat) : Int)).nl) 2) none), (10, .sl ((GS.at q10_0 ((i10 + 1 : Nat) : Int)).nl) (((GS.at q10_0 ((i10 + 1 : Nat) : Int)).l).map Arr2_Int.D) (zsl ((GS.at q10_0 ((i10 + 1 : Nat) : Int)).nl) 2) none), (9, .sl ((GS.at q10_0 ((i10 : Nat) : Int)).nl) (((GS.at q10_0 ((i10 : Nat) : Int)).l).map Arr2_Int.D) (zsl ((GS.at q10_0 ((i10 : Nat) : Int)).nl) 2) none), (81, .sl ((GS.at q10_0 ((i10 + 1 : Nat) : Int)).nl) (((GS.at q10_0 ((i10 + 1 : Nat) : Int)).l).map Arr2_Int.D) (zsl ((GS.at q10_0 ((i10 + 1 : Nat) : Int)).nl) 2) none), (80, .ptr (.sl ((GS.at q10_0 ((i10 + 1 : Nat) : Int)).nl) (((GS.at q10_0 ((i10 + 1 : Nat) : Int)).l).map Arr2_Int.D) (zsl ((GS.at q10_0 ((i10 + 1 : Nat) : Int)).nl) 2) none)), (79, I ((i10 + 1 : Nat) : Int)), (78, I ((i10 : Nat) : Int)), (77, .sl q10_0.nl (q10_0.l.map (GS.D Arr2_Int.D 2)) (zsl q10_0.nl 1) none), (76, .sl ((GS.at q10_0 ((i10 : Nat) : Int)).nl) (((GS.at q10_0 ((i10 : Nat) : Int)).l).map Arr2_Int.D) (zsl ((GS.at q10_0 ((i10 : Nat) : Int)).nl) 2) none), (75, .ptr (.sl ((GS.at q10_0 ((i10 : Nat) : Int)).nl) (((GS.at q10_0 ((i10 : Nat) : Int)).l).map Arr2_Int.D) (zsl ((GS.at q10_0 ((i10 : Nat) : Int)).nl) 2) none)), (74, I ((i10 : Nat) : Int)), (73, .sl q10_0.nl (q10_0.l.map (GS.D Arr2_Int.D 2)) (zsl q10_0.nl 1) none), (7, I ((i10 : Nat) : Int)), (8, .lref 0 0 4 0), (72, .agg [I x10.now.lo, I x10.now.hi, I x10.cost, I x10.error]), (71, .ptr (.agg [I x10.now.lo, I x10.now.hi, I x10.cost, I x10.error])), (70, I ((i10 : Nat) : Int)), (69, B true), (3, .sl q10_0.nl (q10_0.l.map (GS.D Arr2_Int.D 2)) (zsl q10_0.nl 1) none), (5, .sl q10_1.nl (q10_1.l.map I) (zsl q10_1.nl 1) none), (66, .sl e.items.nl (e.items.l.map S_Item.D) (zsl e.items.nl 4) none), (67, I ((e.items.l.length : Nat) : Int)), (68, I ((i10 : Nat) : Int))], [(0, ⟨[.agg [I x10.now.lo, I x10.now.hi, I x10.cost, I x10.error]], 4, false⟩)], 1, 0⟩)
  | .x2 i10 x10 => (.ret, ⟨164, [(2, B true), (89, B true), (88, B true), (87, I (((GS.at q10_0 ((i10 + 1 : Nat) : Int)).l.length : Nat) : Int)), (86, .sl ((GS.at q10_0 ((i10 + 1 : Nat) : Int)).nl) (((GS.at q10_0 ((i10 + 1 : Nat) : Int)).l).map Arr2_Int.D) (zsl ((GS.at q10_0 ((i10 + 1 : Nat) : Int)).nl) 2) none), (85, B false), (84, B false), (83, I (((GS.at q10_0 ((i10 : Nat) : Int)).l.length : Nat) : Int)), (82, .sl ((GS.at q10_0 ((i10 : Nat) : Int)).nl) (((GS.at q10_0 ((i10 : Nat) : Int)).l).map Arr2_Int.D) (zsl ((GS.at q10_0 ((i10 : Nat) : Int)).nl) 2) none), (10, .sl ((GS.at q10_0 ((i10 + 1 : Nat) : Int)).nl) (((GS.at q10_0 ((i10 + 1 : Nat) : Int)).l).map Arr2_Int.D) (zsl ((GS.at q10_0 ((i10 + 1 : Nat) : Int)).nl) 2) none), (9, .sl ((GS.at q10_0 ((i10 : Nat) : Int)).nl) (((GS.at q10_0 ((i10 : Nat) : Int)).l).map Arr2_Int.D) (zsl ((GS.at q10_0 ((i10 : Nat) : Int)).nl) 2) none), (81, .sl ((GS.at q10_0 ((i10 + 1 : Nat) : Int)).nl) (((GS.at q10_0 ((i10 + 1 : Nat) : Int)).l).map Arr2_Int.D) (zsl ((GS.at q10_0 ((i10 + 1 : Nat) : Int)).nl) 2) none), (80, .ptr (.sl ((GS.at q10_0 ((i10 + 1 : Nat) : Int)).nl) (((GS.at q10_0 ((i10 + 1 : Nat) : Int)).l).map Arr2_Int.D) (zsl ((GS.at q10_0 ((i10 + 1 : Nat) : Int)).nl) 2) none)), (79, I ((i10 + 1 : Nat) : Int)), (78, I ((i10 : Nat) : Int)), (77, .sl q10_0.nl (q10_0.l.map (GS.D Arr2_Int.D 2)) (zsl q10_0.nl 1) none), (76, .sl ((GS.at q10_0 ((i10 : Nat) : Int)).nl) (((GS.at q10_0 ((i10 : Nat) : Int)).l).map Arr2_Int.D) (zsl ((GS.at q10_0 ((i10 : Nat) : Int)).nl) 2) none), (75, .ptr (.sl ((GS.at q10_0 ((i10 : Nat) : Int)).nl) (((GS.at q10_0 ((i10 : Nat) : Int)).l).map Arr2_Int.D) (zsl ((GS.at q10_0 ((i10 : Nat) : Int)).nl) 2) none)), (74, I ((i10 : Nat) : Int)), (73, .sl q10_0.nl (q10_0.l.map (GS.D Arr2_Int.D 2)) (zsl q10_0.nl 1) none), (7, I ((i10 : Nat) : Int)), (8, .lref 0 0 4 0), (72, .agg [I x10.now.lo, I x10.now.hi, I x10.cost, I x10.error]), (71, .ptr (.agg [I x10.now.lo, I x10.now.hi, I x10.cost, I x10.error])), (70, I ((i10 : Nat) : Int)), (69, B true), (3, .sl q10_0.nl (q10_0.l.map (GS.D Arr2_Int.D 2)) (zsl q10_0.nl 1) none), (5, .sl q10_1.nl (q10_1.l.map I) (zsl q10_1.nl 1) none), (66, .sl e.items.nl (e.items.l.map S_Item.D) (zsl e.items.nl 4) none), (67, I ((e.items.l.length : Nat) : Int)), (68, I ((i10 : Nat) : Int))], [(0, ⟨[.agg [I x10.now.lo, I x10.now.hi, I x10.cost, I x10.error]], 4, false⟩)], 1, 0⟩)
  | .x3 i10 i28 x28 va17_0_1 => (.ret, ⟨164, [(2, B false), (161, B true), (160, B false), (159, .fn (.func 45) [] [.lref 1 0 2 0]), (158, .sl ((GS.at q10_0 ((i10 + 1 : Nat) : Int)).nl) (((GS.at q10_0 ((i10 + 1 : Nat) : Int)).l).map Arr2_Int.D) (zsl ((GS.at q10_0 ((i10 + 1 : Nat) : Int)).nl) 2) none), (17, .lref 1 0 2 0), (157, .agg [I x28.x0, I x28.x1]), (156, .lref 0 i28 2 0), (155, B true), (3, .sl q10_0.nl (q10_0.l.map (GS.D Arr2_Int.D 2)) (zsl q10_0.nl 1) none), (5, .sl q10_1.nl (q10_1.l.map I) (zsl q10_1.nl 1) none), (10, .sl ((GS.at q10_0 ((i10 + 1 : Nat) : Int)).nl) (((GS.at q10_0 ((i10 + 1 : Nat) : Int)).l).map Arr2_Int.D) (zsl ((GS.at q10_0 ((i10 + 1 : Nat) : Int)).nl) 2) none), (66, .sl e.items.nl (e.items.l.map S_Item.D) (zsl e.items.nl 4) none), (67, I ((e.items.l.length : Nat) : Int)), (68, I ((i10 : Nat) : Int)), (152, .lsl 0 0 va17_0_1.length 2 none), (153, I ((va17_0_1.length : Nat) : Int)), (154, I ((i28 : Nat) : Int))], [(0, ⟨va17_0_1.map Arr2_Int.D, 2, false⟩), (1, ⟨[.agg [I x28.x0, I x28.x1]], 2, false⟩)], 2, 0⟩)
  | .x4 i10 i22 x22 va17_0_1 => (.ret, ⟨164, [(2, B false), (150, B true), (149, B true), (148, B true), (147, .tup []), (146, .tup []), (145, .tup []), (144, .tup []), (143, .tup []), (142, .tup []), (141, .tup []), (140, .tup []), (139, .tup []), (138, B true), (137, B true), (136, I x22.x0), (135, .lref 1 0 2 0), (134, I ((GS.at (GS.at q10_0 ((i10 + 1 : Nat) : Int)) (w64 (((i22 : Nat) : Int) - 1))).x0)), (133, .ptr (I ((GS.at (GS.at q10_0 ((i10 + 1 : Nat) : Int)) (w64 (((i22 : Nat) : Int) - 1))).x0))), (132, .ptr (.agg [I ((GS.at (GS.at q10_0 ((i10 + 1 : Nat) : Int)) (w64 (((i22 : Nat) : Int) - 1))).x0), I ((GS.at (GS.at q10_0 ((i10 + 1 : Nat) : Int)) (w64 (((i22 : Nat) : Int) - 1))).x1)])), (131, I (w64 (((i22 : Nat) : Int) - 1))), (130, I ((i22 : Nat) : Int)), (129, .sl ((GS.at q10_0 ((i10 + 1 : Nat) : Int)).nl) (((GS.at q10_0 ((i10 + 1 : Nat) : Int)).l).map Arr2_Int.D) (zsl ((GS.at q10_0 ((i10 + 1 : Nat) : Int)).nl) 2) none), (128, B true), (127, B true), (126, I ((i22 : Nat) : Int)), (125, B false), (124, B false), (123, B true), (122, .agg [I x22.x0, I x22.x1]), (121, .lsl 0 0 va17_0_1.length 2 none), (14, I ((i22 : Nat) : Int)), (15, .lref 1 0 2 0), (120, .agg [I x22.x0, I x22.x1]), (119, .ptr (.agg [I x22.x0, I x22.x1])), (118, I ((i22 : Nat) : Int)), (117, B true), (3, .sl q10_0.nl (q10_0.l.map (GS.D Arr2_Int.D 2)) (zsl q10_0.nl 1) none), (5, .sl q10_1.nl (q10_1.l.map I) (zsl q10_1.nl 1) none), (10, .sl ((GS.at q10_0 ((i10 + 1 : Nat) : Int)).nl) (((GS.at q10_0 ((i10 + 1 : Nat) : Int)).l).map Arr2_Int.D) (zsl ((GS.at q10_0 ((i10 + 1 : Nat) : Int)).nl) 2) none), (11, .lsl 0 0 va17_0_1.length 2 none), (66, .sl e.items.nl (e.items.l.map S_Item.D) (zsl e.items.nl 4) none), (67, I ((e.items.l.length : Nat) : Int)), (68, I ((i10 : Nat) : Int)), (114, .sl ((GS.at q10_0 ((i10 + 1 : Nat) : Int)).nl) (((GS.at q10_0 ((i10 + 1 : Nat) : Int)).l).map Arr2_Int.D) (zsl ((GS.at q10_0 ((i10 + 1 : Nat) : Int)).nl) 2) none), (115, I (((GS.at q10_0 ((i10 + 1 : Nat) : Int)).l.length : Nat) : Int)), (116, I ((i22 : Nat) : Int))], [(0, ⟨va17_0_1.map Arr2_Int.D, 2, false⟩), (1, ⟨[.agg [I x22.x0, I x22.x1]], 2, false⟩)], 2, 0⟩)
  | .x5 i10 i22 x22 va17_0_1 => (.ret, ⟨164, [(2, B false), (150, B true), (149, B true), (148, B true), (147, B true), (146, I x22.x1), (145, .lref 1 0 2 1), (144, I ((GS.at (GS.at q10_0 ((i10 + 1 : Nat) : Int)) (w64 (((i22 : Nat) : Int) - 1))).x1)), (143, .ptr (I ((GS.at (GS.at q10_0 ((i10 + 1 : Nat) : Int)) (w64 (((i22 : Nat) : Int) - 1))).x1))), (142, .ptr (.agg [I ((GS.at (GS.at q10_0 ((i10 + 1 : Nat) : Int)) (w64 (((i22 : Nat) : Int) - 1))).x0), I ((GS.at (GS.at q10_0 ((i10 + 1 : Nat) : Int)) (w64 (((i22 : Nat) : Int) - 1))).x1)])), (141, I (w64 (((i22 : Nat) : Int) - 1))), (140, I ((i22 : Nat) : Int)), (139, .sl ((GS.at q10_0 ((i10 + 1 : Nat) : Int)).nl) (((GS.at q10_0 ((i10 + 1 : Nat) : Int)).l).map Arr2_Int.D) (zsl ((GS.at q10_0 ((i10 + 1 : Nat) : Int)).nl) 2) none), (138, B false), (137, B false), (136, I x22.x0), (135, .lref 1 0 2 0), (134, I ((GS.at (GS.at q10_0 ((i10 + 1 : Nat) : Int)) (w64 (((i22 : Nat) : Int) - 1))).x0)), (133, .ptr (I ((GS.at (GS.at q10_0 ((i10 + 1 : Nat) : Int)) (w64 (((i22 : Nat) : Int) - 1))).x0))), (132, .ptr (.agg [I ((GS.at (GS.at q10_0 ((i10 + 1 : Nat) : Int)) (w64 (((i22 : Nat) : Int) - 1))).x0), I ((GS.at (GS.at q10_0 ((i10 + 1 : Nat) : Int)) (w64 (((i22 : Nat) : Int) - 1))).x1)])), (131, I (w64 (((i22 : Nat) : Int) - 1))), (130, I ((i22 : Nat) : Int)), (129, .sl ((GS.at q10_0 ((i10 + 1 : Nat) : Int)).nl) (((GS.at q10_0 ((i10 + 1 : Nat) : Int)).l).map Arr2_Int.D) (zsl ((GS.at q10_0 ((i10 + 1 : Nat) : Int)).nl) 2) none), (128, B true), (127, B true), (126, I ((i22 : Nat) : Int)), (125, B false), (124, B false), (123, B true), (122, .agg [I x22.x0, I x22.x1]), (121, .lsl 0 0 va17_0_1.length 2 none), (14, I ((i22 : Nat) : Int)), (15, .lref 1 0 2 0), (120, .agg [I x22.x0, I x22.x1]), (119, .ptr (.agg [I x22.x0, I x22.x1])), (118, I ((i22 : Nat) : Int)), (117, B true), (3, .sl q10_0.nl (q10_0.l.map (GS.D Arr2_Int.D 2)) (zsl q10_0.nl 1) none), (5, .sl q10_1.nl (q10_1.l.map I) (zsl q10_1.nl 1) none), (10, .sl ((GS.at q10_0 ((i10 + 1 : Nat) : Int)).nl) (((GS.at q10_0 ((i10 + 1 : Nat) : Int)).l).map Arr2_Int.D) (zsl ((GS.at q10_0 ((i10 + 1 : Nat) : Int)).nl) 2) none), (11, .lsl 0 0 va17_0_1.length 2 none), (66, .sl e.items.nl (e.items.l.map S_Item.D) (zsl e.items.nl 4) none), (67, I ((e.items.l.length : Nat) : Int)), (68, I ((i10 : Nat) : Int)), (114, .sl ((GS.at q10_0 ((i10 + 1 : Nat) : Int)).nl) (((GS.at q10_0 ((i10 + 1 : Nat) : Int)).l).map Arr2_Int.D) (zsl ((GS.at q10_0 ((i10 + 1 : Nat) : Int)).nl) 2) none), (115, I (((GS.at q10_0 ((i10 + 1 : Nat) : Int)).l.length : Nat) : Int)), (116, I ((i22 : Nat) : Int))], [(0, ⟨va17_0_1.map Arr2_Int.D, 2, false⟩), (1, ⟨[.agg [I x22.x0, I x22.x1]], 2, false⟩)], 2, 0⟩)
  | .x6 i10 i22 x22 va17_0_1 => (.ret, ⟨164, [(2, B false), (150, B true), (149, .tup []), (148, .tup []), (147, .tup []), (146, .tup []), (145, .tup []), (144, .tup []), (143, .tup []), (142, .tup []), (141, .tup []), (140, .tup []), (139, .tup []), (138, .tup []), (137, .tup []), (136, .tup []), (135, .tup []), (134, .tup []), (133, .tup []), (132, .tup []), (131, .tup []), (130, .tup []), (129, .tup []), (128, .tup []), (127, .tup []), (126, .tup []), (125, B true), (124, B true), (123, B false), (122, .agg [I x22.x0, I x22.x1]), (121, .lsl 0 0 va17_0_1.length 2 none), (14, I ((i22 : Nat) : Int)), (15, .lref 1 0 2 0), (120, .agg [I x22.x0, I x22.x1]), (119, .ptr (.agg [I x22.x0, I x22.x1])), (118, I ((i22 : Nat) : Int)), (117, B true), (3, .sl q10_0.nl (q10_0.l.map (GS.D Arr2_Int.D 2)) (zsl q10_0.nl 1) none), (5, .sl q10_1.nl (q10_1.l.map I) (zsl q10_1.nl 1) none), (10, .sl ((GS.at q10_0 ((i10 + 1 : Nat) : Int)).nl) (((GS.at q10_0 ((i10 + 1 : Nat) : Int)).l).map Arr2_Int.D) (zsl ((GS.at q10_0 ((i10 + 1 : Nat) : Int)).nl) 2) none), (11, .lsl 0 0 va17_0_1.length 2 none), (66, .sl e.items.nl (e.items.l.map S_Item.D) (zsl e.items.nl 4) none), (67, I ((e.items.l.length : Nat) : Int)), (68, I ((i10 : Nat) : Int)), (114, .sl ((GS.at q10_0 ((i10 + 1 : Nat) : Int)).nl) (((GS.at q10_0 ((i10 + 1 : Nat) : Int)).l).map Arr2_Int.D) (zsl ((GS.at q10_0 ((i10 + 1 : Nat) : Int)).nl) 2) none), (115, I (((GS.at q10_0 ((i10 + 1 : Nat) : Int)).l.length : Nat) : Int)), (116, I ((i22 : Nat) : Int))], [(0, ⟨va17_0_1.map Arr2_Int.D, 2, false⟩), (1, ⟨[.agg [I x22.x0, I x22.x1]], 2, false⟩)], 2, 0⟩)
def l_OrdersProved_10_l_o1 (i10 : Nat) (q10_0 : GS (GS Arr2_Int)) (x10 : S_Item) : List Ora := [.dec true, .el (.agg [I x10.now.lo, I x10.now.hi, I x10.cost, I x10.error]), .el (.sl ((GS.at q10_0 ((i10 : Nat) : Int)).nl) (((GS.at q10_0 ((i10 : Nat) : Int)).l).map Arr2_Int.D) (zsl ((GS.at q10_0 ((i10 : Nat) : Int)).nl) 2) none), .rw 79 (I ((i10 + 1 : Nat) : Int)), .el (.sl ((GS.at q10_0 ((i10 + 1 : Nat) : Int)).nl) (((GS.at q10_0 ((i10 + 1 : Nat) : Int)).l).map Arr2_Int.D) (zsl ((GS.at q10_0 ((i10 + 1 : Nat) : Int)).nl) 2) none), .rw 83 (I (((GS.at q10_0 ((i10 : Nat) : Int)).l.length : Nat) : Int))]
def l_OrdersProved_10_l_o2 (e : S_Estate) (i10 : Nat) (q10_0 : GS (GS Arr2_Int)) (q10_1 : GS Int) (x10 : S_Item) (va17_0 : List Arr2_Int) : List Ora := [.dec false, .rw 87 (I (((GS.at q10_0 ((i10 + 1 : Nat) : Int)).l.length : Nat) : Int)), .dec false, .rw 91 (I (((GS.at q10_0 ((i10 : Nat) : Int)).l.length : Nat) : Int)), .loop (.exit 2) (sd30167 e i10 q10_0 q10_1 x10 va17_0), .rw 115 (I (((GS.at q10_0 ((i10 + 1 : Nat) : Int)).l.length : Nat) : Int))]
theorem lp_l_OrdersProved_10 (e : S_Estate) (q10_0 : GS (GS Arr2_Int)) (q10_1 : GS Int) : ∀ (rest10 : List S_Item) (i10 : Nat) (hd10 : e.items.l.drop i10 = rest10) (hi10 : i10 ≤ e.items.l.length) (hle : e.items.l.length ≤ 12) (hlq : q10_0.l.length = e.items.l.length + 1) (hlg : q10_1.l.length = e.items.l.length) (hne : ∀ r ∈ q10_0.l, 1 ≤ r.l.length) (hL10 : e.items.l.length ≤ 9223372036854775807), (lim cfg).loop 10 lp10_10 ⟨164, [(3, .sl q10_0.nl (q10_0.l.map (GS.D Arr2_Int.D 2)) (zsl q10_0.nl 1) none), (5, .sl q10_1.nl (q10_1.l.map I) (zsl q10_1.nl 1) none), (66, .sl e.items.nl (e.items.l.map S_Item.D) (zsl e.items.nl 4) none), (67, I ((e.items.l.length : Nat) : Int)), (68, I ((i10 : Nat) : Int))], [], 0, 0⟩ = some (lr_l_OrdersProved_10 e q10_0 q10_1 (l_OrdersProved_10 q10_0 q10_1 rest10 i10)) := by
  intro rest10
  induction rest10 with
  | nil =>
    intro i10 hd10 hi10 hle hlq hlg hne hL10
    unfold l_OrdersProved_10
    obtain rfl : i10 = e.items.l.length := nil_eq hd10 hi10
    exact zF [.dec false] (And.intro (lt_no hd10) trivial) (by kernel_rfl)
  | cons x10 rest10 ih =>
    intro i10 hd10 hi10 hle hlq hlg hne hL10
    have hlt10 := zw hd10
    unfold l_OrdersProved_10
    have p1 := (el_at (s := e.items) (f := S_Item.D) (k := 4) hd10)
    have p2 := (el_in (s := q10_0) (f := (GS.D Arr2_Int.D 2)) (k := 1) (i := ((i10 : Nat) : Int)) (by first | assumption | omega) (by first | assumption | omega))
    have p3 := (inc_rw (i := i10) (by have := zw hd10; omega))
    have p4 := (el_in (s := q10_0) (f := (GS.D Arr2_Int.D 2)) (k := 1) (i := ((i10 + 1 : Nat) : Int)) (by first | assumption | omega) (by first | assumption | omega))
    have p5 := (zt Arr2_Int.D (GS.at q10_0 ((i10 : Nat) : Int)))
    cases h22 : decide ((((GS.at q10_0 ((i10 : Nat) : Int)).l.length : Nat) : Int) > 300) with
    | true =>
      have g22 := of_decide_eq_true h22
      exact zF ((l_OrdersProved_10_l_o1 i10 q10_0 x10) ++ [.dec true]) (And.intro h22 (And.intro p5 (And.intro p4 (And.intro p3 (And.intro p2 (And.intro p1 (And.intro (lt_at hd10) trivial))))))) (by kernel_rfl)
    | false =>
      have g22 := of_decide_eq_false h22
      have p6 := (zt Arr2_Int.D (GS.at q10_0 ((i10 + 1 : Nat) : Int)))
      cases h23 : decide ((((GS.at q10_0 ((i10 + 1 : Nat) : Int)).l.length : Nat) : Int) > 300) with
      | true =>
        have g23 := of_decide_eq_true h23
        exact zF ((l_OrdersProved_10_l_o1 i10 q10_0 x10) ++ [.dec false, .rw 87 (I (((GS.at q10_0 ((i10 + 1 : Nat) : Int)).l.length : Nat) : Int)), .dec true]) (And.intro h23 (And.intro p6 (And.intro h22 (And.intro p5 (And.intro p4 (And.intro p3 (And.intro p2 (And.intro p1 (And.intro (lt_at hd10) trivial))))))))) (by kernel_rfl)
      | false =>
        have g23 := of_decide_eq_false h23
        have p7 := (zt Arr2_Int.D (GS.at q10_0 ((i10 : Nat) : Int)))
        cases h24 : l_OrdersProved_17 q10_1 x10 ((i10 : Nat) : Int) ((GS.at q10_0 ((i10 : Nat) : Int)).l) with
        | x0 va17_0 =>
          try dsimp only
          have hv_h24 := ivt_l_OrdersProved_17 e q10_0 q10_1 x10 (GS.at q10_0 ((i10 + 1 : Nat) : Int)) (GS.at q10_0 ((i10 : Nat) : Int)) ((i10 : Nat) : Int) ((GS.at q10_0 ((i10 : Nat) : Int)).l) 0 (List.drop_zero) (Nat.zero_le _) (by first | assumption | omega) (by first | assumption | omega) (by first | assumption | omega)
          rw [h24] at hv_h24
          have hv_h24_0 := hv_h24
          try dsimp only [iv_l_OrdersProved_17] at hv_h24_0
          have p8 := (po_lr (q := lr_l_OrdersProved_17 e q10_0 q10_1 x10 (GS.at q10_0 ((i10 + 1 : Nat) : Int)) (GS.at q10_0 ((i10 : Nat) : Int)) ((i10 : Nat) : Int)) (lp_l_OrdersProved_17 e q10_0 q10_1 x10 (GS.at q10_0 ((i10 + 1 : Nat) : Int)) (GS.at q10_0 ((i10 : Nat) : Int)) ((i10 : Nat) : Int) ((GS.at q10_0 ((i10 : Nat) : Int)).l) 0 (List.drop_zero) (Nat.zero_le _) (by first | assumption | omega) (by first | assumption | omega) (by first | assumption | omega)) h24)
          have p9 := (zt Arr2_Int.D (GS.at q10_0 ((i10 + 1 : Nat) : Int)))
          have p10 := (gc_of (C := cfg) (f := 10) (a := lp10_22) (ks := [3, 5, 10, 11, 66, 67, 68, 114, 115, 116]) (st := (sd30170 e i10 q10_0 q10_1 x10 va17_0)) (st1 := (sd30171 e i10 q10_0 q10_1 va17_0)) (by kernel_rfl) (by (simp only [sd30170, sd30171, go_sem, List.length_set, Nat.reduceAdd, Nat.reduceEqDiff, Nat.reduceLT, Nat.reduceLeDiff, bI2, zm.idsL, zm.renL, zm.snapAll, zk.idsL, zk.renL, zk.snapAll, zK.idsL, zK.renL, zK.snapAll, zo.idsL, zo.renL, zo.snapAll]) <;> rfl))
          cases h33 : l_OrdersProved_22 va17_0 (GS.at q10_0 ((i10 + 1 : Nat) : Int)) ((GS.at q10_0 ((i10 + 1 : Nat) : Int)).l) 0 with
          | x0 =>
            try dsimp only
            have p11 := (po_lr (q := lr_l_OrdersProved_22 e q10_0 q10_1 va17_0 (GS.at q10_0 ((i10 + 1 : Nat) : Int)) ((i10 : Nat) : Int)) (lp_l_OrdersProved_22 e q10_0 q10_1 va17_0 (GS.at q10_0 ((i10 + 1 : Nat) : Int)) ((i10 : Nat) : Int) ((GS.at q10_0 ((i10 + 1 : Nat) : Int)).l) 0 (List.drop_zero) (Nat.zero_le _) (by first | assumption | omega) (by first | assumption | omega) (by first | assumption | omega)) h33)
            have p12 := (gc_of (C := cfg) (f := 10) (a := lp10_28) (ks := [3, 5, 10, 66, 67, 68, 152, 153, 154]) (st := (sd30174 e i10 q10_0 q10_1 va17_0)) (st1 := (sd30175 e i10 q10_0 q10_1 va17_0)) (by kernel_rfl) (by (simp only [sd30174, sd30175, go_sem, List.length_set, Nat.reduceAdd, Nat.reduceEqDiff, Nat.reduceLT, Nat.reduceLeDiff, bI2, zm.idsL, zm.renL, zm.snapAll, zk.idsL, zk.renL, zk.snapAll, zK.idsL, zK.renL, zK.snapAll, zo.idsL, zo.renL, zo.snapAll]) <;> rfl))
            cases h36 : l_OrdersProved_28 va17_0 (GS.at q10_0 ((i10 + 1 : Nat) : Int)) va17_0 0 with
            | x0 =>
              try dsimp only
              exact po_turn' (ks := [3, 5, 66, 67, 68]) (st' := (sd30182 e i10 q10_0 q10_1 va17_0)) ((l_OrdersProved_10_l_o1 i10 q10_0 x10) ++ ((l_OrdersProved_10_l_o2 e i10 q10_0 q10_1 x10 va17_0) ++ [.gloop (sd30171 e i10 q10_0 q10_1 va17_0) (.exit 4) (sd30172 e i10 q10_0 q10_1 va17_0), .gloop (sd30175 e i10 q10_0 q10_1 va17_0) (.exit 6) (sd30176 e i10 q10_0 q10_1 va17_0), .rw 163 (I ((i10 + 1 : Nat) : Int))])) (And.intro (inc_rw (i := i10) (by have := zw hd10; omega)) (And.intro (po_lr (q := lr_l_OrdersProved_28 e q10_0 q10_1 va17_0 (GS.at q10_0 ((i10 + 1 : Nat) : Int)) ((i10 : Nat) : Int)) (lp_l_OrdersProved_28 e q10_0 q10_1 va17_0 (GS.at q10_0 ((i10 + 1 : Nat) : Int)) ((i10 : Nat) : Int) va17_0 0 (List.drop_zero) (Nat.zero_le _) (by first | assumption | omega) (by first | assumption | omega) (by first | assumption | omega)) h36) (And.intro p12 (And.intro p11 (And.intro p10 (And.intro p9 (And.intro p8 (And.intro p7 (And.intro h23 (And.intro p6 (And.intro h22 (And.intro p5 (And.intro p4 (And.intro p3 (And.intro p2 (And.intro p1 (And.intro (lt_at hd10) trivial))))))))))))))))) (by kernel_rfl) (by (simp only [sd30182, go_sem, List.length_set, Nat.reduceAdd, Nat.reduceEqDiff, Nat.reduceLT, Nat.reduceLeDiff, bI2, zm.idsL, zm.renL, zm.snapAll, zk.idsL, zk.renL, zk.snapAll, zK.idsL, zK.renL, zK.snapAll, zo.idsL, zo.renL, zo.snapAll]) <;> rfl) (ih (i10 + 1) (zH hd10) (zw hd10) (by first | assumption | omega) (by first | assumption | omega) (by first | assumption | omega) (by first | assumption | omega) (by first | assumption | omega)) (by kernel_rfl)
            | x1 i28 x28 va17_0_1 =>
              try dsimp only
              exact zF ((l_OrdersProved_10_l_o1 i10 q10_0 x10) ++ ((l_OrdersProved_10_l_o2 e i10 q10_0 q10_1 x10 va17_0) ++ [.gloop (sd30171 e i10 q10_0 q10_1 va17_0) (.exit 4) (sd30172 e i10 q10_0 q10_1 va17_0), .gloop (sd30175 e i10 q10_0 q10_1 va17_0) .ret (sd30181 e i10 q10_0 q10_1 i28 x28 va17_0_1)])) (And.intro (po_lr (q := lr_l_OrdersProved_28 e q10_0 q10_1 va17_0 (GS.at q10_0 ((i10 + 1 : Nat) : Int)) ((i10 : Nat) : Int)) (lp_l_OrdersProved_28 e q10_0 q10_1 va17_0 (GS.at q10_0 ((i10 + 1 : Nat) : Int)) ((i10 : Nat) : Int) va17_0 0 (List.drop_zero) (Nat.zero_le _) (by first | assumption | omega) (by first | assumption | omega) (by first | assumption | omega)) h36) (And.intro p12 (And.intro p11 (And.intro p10 (And.intro p9 (And.intro p8 (And.intro p7 (And.intro h23 (And.intro p6 (And.intro h22 (And.intro p5 (And.intro p4 (And.intro p3 (And.intro p2 (And.intro p1 (And.intro (lt_at hd10) trivial)))))))))))))))) (by kernel_rfl)
          | x1 i22 x22 va17_0_1 =>
            try dsimp only
            exact zF ((l_OrdersProved_10_l_o1 i10 q10_0 x10) ++ ((l_OrdersProved_10_l_o2 e i10 q10_0 q10_1 x10 va17_0) ++ [.gloop (sd30171 e i10 q10_0 q10_1 va17_0) .ret (sd30178 e i10 q10_0 q10_1 i22 x22 va17_0_1)])) (And.intro (po_lr (q := lr_l_OrdersProved_22 e q10_0 q10_1 va17_0 (GS.at q10_0 ((i10 + 1 : Nat) : Int)) ((i10 : Nat) : Int)) (lp_l_OrdersProved_22 e q10_0 q10_1 va17_0 (GS.at q10_0 ((i10 + 1 : Nat) : Int)) ((i10 : Nat) : Int) ((GS.at q10_0 ((i10 + 1 : Nat) : Int)).l) 0 (List.drop_zero) (Nat.zero_le _) (by first | assumption | omega) (by first | assumption | omega) (by first | assumption | omega)) h33) (And.intro p10 (And.intro p9 (And.intro p8 (And.intro p7 (And.intro h23 (And.intro p6 (And.intro h22 (And.intro p5 (And.intro p4 (And.intro p3 (And.intro p2 (And.intro p1 (And.intro (lt_at hd10) trivial)))))))))))))) (by kernel_rfl)
          | x2 i22 x22 va17_0_1 =>
            try dsimp only
            exact zF ((l_OrdersProved_10_l_o1 i10 q10_0 x10) ++ ((l_OrdersProved_10_l_o2 e i10 q10_0 q10_1 x10 va17_0) ++ [.gloop (sd30171 e i10 q10_0 q10_1 va17_0) .ret (sd30179 e i10 q10_0 q10_1 i22 x22 va17_0_1)])) (And.intro (po_lr (q := lr_l_OrdersProved_22 e q10_0 q10_1 va17_0 (GS.at q10_0 ((i10 + 1 : Nat) : Int)) ((i10 : Nat) : Int)) (lp_l_OrdersProved_22 e q10_0 q10_1 va17_0 (GS.at q10_0 ((i10 + 1 : Nat) : Int)) ((i10 : Nat) : Int) ((GS.at q10_0 ((i10 + 1 : Nat) : Int)).l) 0 (List.drop_zero) (Nat.zero_le _) (by first | assumption | omega) (by first | assumption | omega) (by first | assumption | omega)) h33) (And.intro p10 (And.intro p9 (And.intro p8 (And.intro p7 (And.intro h23 (And.intro p6 (And.intro h22 (And.intro p5 (And.intro p4 (And.intro p3 (And.intro p2 (And.intro p1 (And.intro (lt_at hd10) trivial)))))))))))))) (by kernel_rfl)
          | x3 i22 x22 va17_0_1 =>
            try dsimp only
            exact zF ((l_OrdersProved_10_l_o1 i10 q10_0 x10) ++ ((l_OrdersProved_10_l_o2 e i10 q10_0 q10_1 x10 va17_0) ++ [.gloop (sd30171 e i10 q10_0 q10_1 va17_0) .ret (sd30180 e i10 q10_0 q10_1 i22 x22 va17_0_1)])) (And.intro (po_lr (q := lr_l_OrdersProved_22 e q10_0 q10_1 va17_0 (GS.at q10_0 ((i10 + 1 : Nat) : Int)) ((i10 : Nat) : Int)) (lp_l_OrdersProved_22 e q10_0 q10_1 va17_0 (GS.at q10_0 ((i10 + 1 : Nat) : Int)) ((i10 : Nat) : Int) ((GS.at q10_0 ((i10 + 1 : Nat) : Int)).l) 0 (List.drop_zero) (Nat.zero_le _) (by first | assumption | omega) (by first | assumption | omega) (by first | assumption | omega)) h33) (And.intro p10 (And.intro p9 (And.intro p8 (And.intro p7 (And.intro h23 (And.intro p6 (And.intro h22 (And.intro p5 (And.intro p4 (And.intro p3 (And.intro p2 (And.intro p1 (And.intro (lt_at hd10) trivial)))))))))))))) (by kernel_rfl)
        | x1 =>
          exact absurd h24 (l_OrdersProved_17_ne (ne_of_at hne (by omega)))

def l_OrdersProved (e : S_Estate) : Bool :=
  bif (r_Valid e) then
    bif (((zg e).2) != 0) then
      false
    else
      bif (((zp e).2) != 0) then
        false
      else
        bif (((((zp e).1).l.length : Nat) : Int) != ((e.items.l.length : Nat) : Int)) then
          false
        else
          bif (((((zg e).1).l.length : Nat) : Int) != (w64 (((e.items.l.length : Nat) : Int) + 1))) then
            false
          else
            bif (eqPairs (GS.at ((zg e).1) 0) (GS.some [(⟨0, 0⟩ : Arr2_Int)])) then
              match l_OrdersProved_10 ((zg e).1) ((zp e).1) e.items.l 0 with
              | .x0 =>
                true
              | .x1 i10 x10 =>
                true
              | .x2 i10 x10 =>
                true
              | .x3 i10 i28 x28 va17_0_1 =>
                false
              | .x4 i10 i22 x22 va17_0_1 =>
                false
              | .x5 i10 i22 x22 va17_0_1 =>
                false
              | .x6 i10 i22 x22 va17_0_1 =>
                false
            else
              false
  else
    true

def l_OrdersProved_o1 (e : S_Estate) : List Ora := [.pure (B true), .dec true, .pure (B (r_Valid e)), .dec true, .pure (.tup [.sl (((zg e).1).nl) ((((zg e).1).l).map (GS.D Arr2_Int.D 2)) (zsl (((zg e).1).nl) 1) none, I ((zg e).2)]), .pure (.tup [.sl (((zp e).1).nl) ((((zp e).1).l).map I) (zsl (((zp e).1).nl) 1) none, I ((zp e).2)])]

def l_OrdersProved_o2 (e : S_Estate) : List Ora := [.dec false, .dec false, .rw 41 (I ((((zp e).1).l.length : Nat) : Int)), .rw 44 (I ((e.items.l.length : Nat) : Int))]

def l_OrdersProved_o3 (e : S_Estate) : List Ora := [.dec false, .rw 49 (I ((((zg e).1).l.length : Nat) : Int)), .rw 52 (I ((e.items.l.length : Nat) : Int)), .dec false, .el (.sl ((GS.at ((zg e).1) 0).nl) (((GS.at ((zg e).1) 0).l).map Arr2_Int.D) (zsl ((GS.at ((zg e).1) 0).nl) 2) none), .pure (B (eqPairs (GS.at ((zg e).1) 0) (GS.some [(⟨0, 0⟩ : Arr2_Int)])))]

def sd30183 (e : S_Estate) : St := ⟨164, [(69, B false), (3, .sl (((zg e).1).nl) ((((zg e).1).l).map (GS.D Arr2_Int.D 2)) (zsl (((zg e).1).nl) 1) none), (5, .sl (((zp e).1).nl) ((((zp e).1).l).map I) (zsl (((zp e).1).nl) 1) none), (66, .sl e.items.nl (e.items.l.map S_Item.D) (zsl e.items.nl 4) none), (67, I ((e.items.l.length : Nat) : Int)), (68, I ((e.items.l.length : Nat) : Int))], [], 0, 0⟩

def sd30184 (e : S_Estate) (i10 : Nat) (x10 : S_Item) : St := ⟨164, [(2, B true), (89, B true), (88, .tup []), (87, .tup []), (86, .tup []), (85, B true), (84, B true), (83, I (((GS.at ((zg e).1) ((i10 : Nat) : Int)).l.length : Nat) : Int)), (82, .sl ((GS.at ((zg e).1) ((i10 : Nat) : Int)).nl) (((GS.at ((zg e).1) ((i10 : Nat) : Int)).l).map Arr2_Int.D) (zsl ((GS.at ((zg e).1) ((i10 : Nat) : Int)).nl) 2) none), (10, .sl ((GS.at ((zg e).1) ((i10 + 1 : Nat) : Int)).nl) (((GS.at ((zg e).1) ((i10 + 1 : Nat) : Int)).l).map Arr2_Int.D) (zsl ((GS.at ((zg e).1) ((i10 + 1 : Nat) : Int)).nl) 2) none), (9, .sl ((GS.at ((zg e).1) ((i10 : Nat) : Int)).nl) (((GS.at ((zg e).1) ((i10 : Nat) : Int)).l).map Arr2_Int.D) (zsl ((GS.at ((zg e).1) ((i10 : Nat) : Int)).nl) 2) none), (81, .sl ((GS.at ((zg e).1) ((i10 + 1 : Nat) : Int)).nl) (((GS.at ((zg e).1) ((i10 + 1 : Nat) : Int)).l).map Arr2_Int.D) (zsl ((GS.at ((zg e).1) ((i10 + 1 : Nat) : Int)).nl) 2) none), (80, .ptr (.sl ((GS.at ((zg e).1) ((i10 + 1 : Nat) : Int)).nl) (((GS.at ((zg e).1) ((i10 + 1 : Nat) : Int)).l).map Arr2_Int.D) (zsl ((GS.at ((zg e).1) ((i10 + 1 : Nat) : Int)).nl) 2) none)), (79, I ((i10 + 1 : Nat) : Int)), (78, I ((i10 : Nat) : Int)), (77, .sl (((zg e).1).nl) ((((zg e).1).l).map (GS.D Arr2_Int.D 2)) (zsl (((zg e).1).nl) 1) none), (76, .sl ((GS.at ((zg e).1) ((i10 : Nat) : Int)).nl) (((GS.at ((zg e).1) ((i10 : Nat) : Int)).l).map Arr2_Int.D) (zsl ((GS.at ((zg e).1) ((i10 : Nat) : Int)).nl) 2) none), (75, .ptr (.sl ((GS.at ((zg e).1) ((i10 : Nat) : Int)).nl) (((GS.at ((zg e).1) ((i10 : Nat) : Int)).l).map Arr2_Int.D) (zsl ((GS.at ((zg e).1) ((i10 : Nat) : Int)).nl) 2) none)), (74, I ((i10 : Nat) : Int)), (73, .sl (((zg e).1).nl) ((((zg e).1).l).map (GS.D Arr2_Int.D 2)) (zsl (((zg e).1).nl) 1) none), (7, I ((i10 : Nat) : Int)), (8, .lref 0 0 4 0), (72, .agg [I x10.now.lo, I x10.now.hi, I x10.cost, I x10.error]), (71, .ptr (.agg [I x10.now.lo, I x10.now.hi, I x10.cost, I x10.error])), (70, I ((i10 : Nat) : Int)), (69, B true), (3, .sl (((zg e).1).nl) ((((zg e).1).l).map (GS.D Arr2_Int.D 2)) (zsl (((zg e).1).nl) 1) none), (5, .sl (((zp e).1).nl) ((((zp e).1).l).map I) (zsl (((zp e).1).nl) 1) none), (66, .sl e.items.nl (e.items.l.map S_Item.D) (zsl e.items.nl 4) none), (67, I ((e.items.l.length : Nat) : Int)), (68, I ((i10 : Nat) : Int))], [(0, ⟨[.agg [I x10.now.lo, I x10.now.hi, I x10.cost, I x10.error]], 4, false⟩)], 1, 0⟩

def sd30185 (e : S_Estate) (i10 : Nat) (x10 : S_Item) : St := ⟨164, [(2, B true), (89, B true), (88, B true), (87, I (((GS.at ((zg e).1) ((i10 + 1 : Nat) : Int)).l.length : Nat) : Int)), (86, .sl ((GS.at ((zg e).1) ((i10 + 1 : Nat) : Int)).nl) (((GS.at ((zg e).1) ((i10 + 1 : Nat) : Int)).l).map Arr2_Int.D) (zsl ((GS.at ((zg e).1) ((i10 + 1 : Nat) : Int)).nl) 2) none), (85, B false), (84, B false), (83, I (((GS.at ((zg e).1) ((i10 : Nat) : Int)).l.length : Nat) : Int)), (82, .sl ((GS.at ((zg e).1) ((i10 : Nat) : Int)).nl) (((GS.at ((zg e).1) ((i10 : Nat) : Int)).l).map Arr2_Int.D) (zsl ((GS.at ((zg e).1) ((i10 : Nat) : Int)).nl) 2) none), (10, .sl ((GS.at ((zg e).1) ((i10 + 1 : Nat) : Int)).nl) (((GS.at ((zg e).1) ((i10 + 1 : Nat) : Int)).l).map Arr2_Int.D) (zsl ((GS.at ((zg e).1) ((i10 + 1 : Nat) : Int)).nl) 2) none), (9, .sl ((GS.at ((zg e).1) ((i10 : Nat) : Int)).nl) (((GS.at ((zg e).1) ((i10 : Nat) : Int)).l).map Arr2_Int.D) (zsl ((GS.at ((zg e).1) ((i10 : Nat) : Int)).nl) 2) none), (81, .sl ((GS.at ((zg e).1) ((i10 + 1 : Nat) : Int)).nl) (((GS.at ((zg e).1) ((i10 + 1 : Nat) : Int)).l).map Arr2_Int.D) (zsl ((GS.at ((zg e).1) ((i10 + 1 : Nat) : Int)).nl) 2) none), (80, .ptr (.sl ((GS.at ((zg e).1) ((i10 + 1 : Nat) : Int)).nl) (((GS.at ((zg e).1) ((i10 + 1 : Nat) : Int)).l).map Arr2_Int.D) (zsl ((GS.at ((zg e).1) ((i10 + 1 : Nat) : Int)).nl) 2) none)), (79, I ((i10 + 1 : Nat) : Int)), (78, I ((i10 : Nat) : Int)), (77, .sl (((zg e).1).nl) ((((zg e).1).l).map (GS.D Arr2_Int.D 2)) (zsl (((zg e).1).nl) 1) none), (76, .sl ((GS.at ((zg e).1) ((i10 : Nat) : Int)).nl) (((GS.at ((zg e).1) ((i10 : Nat) : Int)).l).map Arr2_Int.D) (zsl ((GS.at ((zg e).1) ((i10 : Nat) : Int)).nl) 2) none), (75, .ptr (.sl ((GS.at ((zg e).1) ((i10 : Nat) : Int)).nl) (((GS.at ((zg e).1) ((i10 : Nat) : Int)).l).map Arr2_Int.D) (zsl ((GS.at ((zg e).1) ((i10 : Nat) : Int)).nl) 2) none)), (74, I ((i10 : Nat) : Int)), (73, .sl (((zg e).1).nl) ((((zg e).1).l).map (GS.D Arr2_Int.D 2)) (zsl (((zg e).1).nl) 1) none), (7, I ((i10 : Nat) : Int)), (8, .lref 0 0 4 0), (72, .agg [I x10.now.lo, I x10.now.hi, I x10.cost, I x10.error]), (71, .ptr (.agg [I x10.now.lo, I x10.now.hi, I x10.cost, I x10.error])), (70, I ((i10 : Nat) : Int)), (69, B true), (3, .sl (((zg e).1).nl) ((((zg e).1).l).map (GS.D Arr2_Int.D 2)) (zsl (((zg e).1).nl) 1) none), (5, .sl (((zp e).1).nl) ((((zp e).1).l).map I) (zsl (((zp e).1).nl) 1) none), (66, .sl e.items.nl (e.items.l.map S_Item.D) (zsl e.items.nl 4) none), (67, I ((e.items.l.length : Nat) : Int)), (68, I ((i10 : Nat) : Int))], [(0, ⟨[.agg [I x10.now.lo, I x10.now.hi, I x10.cost, I x10.error]], 4, false⟩)], 1, 0⟩

def sd30186 (e : S_Estate) (i10 : Nat) (i28 : Nat) (x28 : Arr2_Int) (va17_0_1 : List Arr2_Int) : St := ⟨164, [(2, B false), (161, B true), (160, B false), (159, .fn (.func 45) [] [.lref 1 0 2 0]), (158, .sl ((GS.at ((zg e).1) ((i10 + 1 : Nat) : Int)).nl) (((GS.at ((zg e).1) ((i10 + 1 : Nat) : Int)).l).map Arr2_Int.D) (zsl ((GS.at ((zg e).1) ((i10 + 1 : Nat) : Int)).nl) 2) none), (17, .lref 1 0 2 0), (157, .agg [I x28.x0, I x28.x1]), (156, .lref 0 i28 2 0), (155, B true), (3, .sl (((zg e).1).nl) ((((zg e).1).l).map (GS.D Arr2_Int.D 2)) (zsl (((zg e).1).nl) 1) none), (5, .sl (((zp e).1).nl) ((((zp e).1).l).map I) (zsl (((zp e).1).nl) 1) none), (10, .sl ((GS.at ((zg e).1) ((i10 + 1 : Nat) : Int)).nl) (((GS.at ((zg e).1) ((i10 + 1 : Nat) : Int)).l).map Arr2_Int.D) (zsl ((GS.at ((zg e).1) ((i10 + 1 : Nat) : Int)).nl) 2) none), (66, .sl e.items.nl (e.items.l.map S_Item.D) (zsl e.items.nl 4) none), (67, I ((e.items.l.length : Nat) : Int)), (68, I ((i10 : Nat) : Int)), (152, .lsl 0 0 va17_0_1.length 2 none), (153, I ((va17_0_1.length : Nat) : Int)), (154, I ((i28 : Nat) : Int))], [(0, ⟨va17_0_1.map Arr2_Int.D, 2, false⟩), (1, ⟨[.agg [I x28.x0, I x28.x1]], 2, false⟩)], 2, 0⟩

def sd30187 (e : S_Estate) (i10 : Nat) (i22 : Nat) (x22 : Arr2_Int) (va17_0_1 : List Arr2_Int) : St := ⟨164, [(2, B false), (150, B true), (149, B true), (148, B true), (147, .tup []), (146, .tup []), (145, .tup []), (144, .tup []), (143, .tup []), (142, .tup []), (141, .tup []), (140, .tup []), (139, .tup []), (138, B true), (137, B true), (136, I x22.x0), (135, .lref 1 0 2 0), (134, I ((GS.at (GS.at ((zg e).1) ((i10 + 1 : Nat) : Int)) (w64 (((i22 : Nat) : Int) - 1))).x0)), (133, .ptr (I ((GS.at (GS.at ((zg e).1) ((i10 + 1 : Nat) : Int)) (w64 (((i22 : Nat) : Int) - 1))).x0))), (132, .ptr (.agg [I ((GS.at (GS.at ((zg e).1) ((i10 + 1 : Nat) : Int)) (w64 (((i22 : Nat) : Int) - 1))).x0), I ((GS.at (GS.at ((zg e).1) ((i10 + 1 : Nat) : Int)) (w64 (((i22 : Nat) : Int) - 1))).x1)])), (131, I (w64 (((i22 : Nat) : Int) - 1))), (130, I ((i22 : Nat) : Int)), (129, .sl ((GS.at ((zg e).1) ((i10 + 1 : Nat) : Int)).nl) (((GS.at ((zg e).1) ((i10 + 1 : Nat) : Int)).l).map Arr2_Int.D) (zsl ((GS.at ((zg e).1) ((i10 + 1 : Nat) : Int)).nl) 2) none), (128, B true), (127, B true), (126, I ((i22 : Nat) : Int)), (125, B false), (124, B false), (123, B true), (122, .agg [I x22.x0, I x22.x1]), (121, .lsl 0 0 va17_0_1.length 2 none), (14, I ((i22 : Nat) : Int)), (15, .lref 1 0 2 0), (120, .agg [I x22.x0, I x22.x1]), (119, .ptr (.agg [I x22.x0, I x22.x1])), (118, I ((i22 : Nat) : Int)), (117, B true), (3, .sl (((zg e).1).nl) ((((zg e).1).l).map (GS.D Arr2_Int.D 2)) (zsl (((zg e).1).nl) 1) none), (5, .sl (((zp e).1).nl) ((((zp e).1).l).map I) (zsl (((zp e).1).nl) 1) none), (10, .sl ((GS.at ((zg e).1) ((i10 + 1 : Nat) : Int)).nl) (((GS.at ((zg e).1) ((i10 + 1 : Nat) : Int)).l).map Arr2_Int.D) (zsl ((GS.at ((zg e).1) ((i10 + 1 : Nat) : Int)).nl) 2) none), (11, .lsl 0 0 va17_0_1.length 2 none), (66, .sl e.items.nl (e.items.l.map S_Item.D) (zsl e.items.nl 4) none), (67, I ((e.items.l.length : Nat) : Int)), (68, I ((i10 : Nat) : Int)), (114, .sl ((GS.at ((zg e).1) ((i10 + 1 : Nat) : Int)).nl) (((GS.at ((zg e).1) ((i10 + 1 : Nat) : Int)).l).map Arr2_Int.D) (zsl ((GS.at ((zg e).1) ((i10 + 1 : Nat) : Int)).nl) 2) none), (115, I (((GS.at ((zg e).1) ((i10 + 1 : Nat) : Int)).l.length : Nat) : Int)), (116, I ((i22 : Nat) : Int))], [(0, ⟨va17_0_1.map Arr2_Int.D, 2, false⟩), (1, ⟨[.agg [I x22.x0, I x22.x1]], 2, false⟩)], 2, 0⟩

def sd30188 (e : S_Estate) (i10 : Nat) (i22 : Nat) (x22 : Arr2_Int) (va17_0_1 : List Arr2_Int) : St := ⟨164, [(2, B false), (150, B true), (149, B true), (148, B true), (147, B true), (146, I x22.x1), (145, .lref 1 0 2 1), (144, I ((GS.at (GS.at ((zg e).1) ((i10 + 1 : Nat) : Int)) (w64 (((i22 : Nat) : Int) - 1))).x1)), (143, .ptr (I ((GS.at (GS.at ((zg e).1) ((i10 + 1 : Nat) : Int)) (w64 (((i22 : Nat) : Int) - 1))).x1))), (142, .ptr (.agg [I ((GS.at (GS.at ((zg e).1) ((i10 + 1 : Nat) : Int)) (w64 (((i22 : Nat) : Int) - 1))).x0), I ((GS.at (GS.at ((zg e).1) ((i10 + 1 : Nat) : Int)) (w64 (((i22 : Nat) : Int) - 1))).x1)])), (141, I (w64 (((i22 : Nat) : Int) - 1))), (140, I ((i22 : Nat) : Int)), (139, .sl ((GS.at ((zg e).1) ((i10 + 1 : Nat) : Int)).nl) (((GS.at ((zg e).1) ((i10 + 1 : Nat) : Int)).l).map Arr2_Int.D) (zsl ((GS.at ((zg e).1) ((i10 + 1 : Nat) : Int)).nl) 2) none), (138, B false), (137, B false), (136, I x22.x0), (135, .lref 1 0 2 0), (134, I ((GS.at (GS.at ((zg e).1) ((i10 + 1 : Nat) : Int)) (w64 (((i22 : Nat) : Int) - 1))).x0)), (133, .ptr (I ((GS.at (GS.at ((zg e).1) ((i10 + 1 : Nat) : Int)) (w64 (((i22 : Nat) : Int) - 1))).x0))), (132, .ptr (.agg [I ((GS.at (GS.at ((zg e).1) ((i10 + 1 : Nat) : Int)) (w64 (((i22 : Nat) : Int) - 1))).x0), I ((GS.at (GS.at ((zg e).1) ((i10 + 1 : Nat) : Int)) (w64 (((i22 : Nat) : Int) - 1))).x1)])), (131, I (w64 (((i22 : Nat) : Int) - 1))), (130, I ((i22 : Nat) : Int)), (129, .sl ((GS.at ((zg e).1) ((i10 + 1 : Nat) : Int)).nl) (((GS.at ((zg e).1) ((i10 + 1 : Nat) : Int)).l).map Arr2_Int.D) (zsl ((GS.at ((zg e).1) ((i10 + 1 : Nat) : Int)).nl) 2) none), (128, B true), (127, B true), (126, I ((i22 : Nat) : Int)), (125, B false), (124, B false), (123, B true), (122, .agg [I x22.x0, I x22.x1]), (121, .lsl 0 0 va17_0_1.length 2 none), (14, I ((i22 : Nat) : Int)), (15, .lref 1 0 2 0), (120, .agg [I x22.x0, I x22.x1]), (119, .ptr (.agg [I x22.x0, I x22.x1])), (118, I ((i22 : Nat) : Int)), (117, B true), (3, .sl (((zg e).1).nl) ((((zg e).1).l).map (GS.D Arr2_Int.D 2)) (zsl (((zg e).1).nl) 1) none), (5, .sl (((zp e).1).nl) ((((zp e).1).l).map I) (zsl (((zp e).1).nl) 1) none), (10, .sl ((GS.at ((zg e).1) ((i10 + 1 : Nat) : Int)).nl) (((GS.at ((zg e).1) ((i10 + 1 : Nat) : Int)).l).map Arr2_Int.D) (zsl ((GS.at ((zg e).1) ((i10 + 1 : Nat) : Int)).nl) 2) none), (11, .lsl 0 0 va17_0_1.length 2 none), (66, .sl e.items.nl (e.items.l.map S_Item.D) (zsl e.items.nl 4) none), (67, I ((e.items.l.length : Nat) : Int)), (68, I ((i10 : Nat) : Int)), (114, .sl ((GS.at ((zg e).1) ((i10 + 1 : Nat) : Int)).nl) (((GS.at ((zg e).1) ((i10 + 1 : Nat) : Int)).l).map Arr2_Int.D) (zsl ((GS.at ((zg e).1) ((i10 + 1 : Nat) : Int)).nl) 2) none), (115, I (((GS.at ((zg e).1) ((i10 + 1 : Nat) : Int)).l.length : Nat) : Int)), (116, I ((i22 : Nat) : Int))], [(0, ⟨va17_0_1.map Arr2_Int.D, 2, false⟩), (1, ⟨[.agg [I x22.x0, I x22.x1]], 2, false⟩)], 2, 0⟩

def sd30189 (e : S_Estate) (i10 : Nat) (i22 : Nat) (x22 : Arr2_Int) (va17_0_1 : List Arr2_Int) : St := ⟨164, [(2, B false), (150, B true), (149, .tup []), (148, .tup []), (147, .tup []), (146, .tup []), (145, .tup []), (144, .tup []), (143, .tup []), (142, .tup []), (141, .tup []), (140, .tup []), (139, .tup []), (138, .tup []), (137, .tup []), (136, .tup []), (135, .tup []), (134, .tup []), (133, .tup []), (132, .tup []), (131, .tup []), (130, .tup []), (129, .tup []), (128, .tup []), (127, .tup []), (126, .tup []), (125, B true), (124, B true), (123, B false), (122, .agg [I x22.x0, I x22.x1]), (121, .lsl 0 0 va17_0_1.length 2 none), (14, I ((i22 : Nat) : Int)), (15, .lref 1 0 2 0), (120, .agg [I x22.x0, I x22.x1]), (119, .ptr (.agg [I x22.x0, I x22.x1])), (118, I ((i22 : Nat) : Int)), (117, B true), (3, .sl (((zg e).1).nl) ((((zg e).1).l).map (GS.D Arr2_Int.D 2)) (zsl (((zg e).1).nl) 1) none), (5, .sl (((zp e).1).nl) ((((zp e).1).l).map I) (zsl (((zp e).1).nl) 1) none), (10, .sl ((GS.at ((zg e).1) ((i10 + 1 : Nat) : Int)).nl) (((GS.at ((zg e).1) ((i10 + 1 : Nat) : Int)).l).map Arr2_Int.D) (zsl ((GS.at ((zg e).1) ((i10 + 1 : Nat) : Int)).nl) 2) none), (11, .lsl 0 0 va17_0_1.length 2 none), (66, .sl e.items.nl (e.items.l.map S_Item.D) (zsl e.items.nl 4) none), (67, I ((e.items.l.length : Nat) : Int)), (68, I ((i10 : Nat) : Int)), (114, .sl ((GS.at ((zg e).1) ((i10 + 1 : Nat) : Int)).nl) (((GS.at ((zg e).1) ((i10 + 1 : Nat) : Int)).l).map Arr2_Int.D) (zsl ((GS.at ((zg e).1) ((i10 + 1 : Nat) : Int)).nl) 2) none), (115, I (((GS.at ((zg e).1) ((i10 + 1 : Nat) : Int)).l.length : Nat) : Int)), (116, I ((i22 : Nat) : Int))], [(0, ⟨va17_0_1.map Arr2_Int.D, 2, false⟩), (1, ⟨[.agg [I x22.x0, I x22.x1]], 2, false⟩)], 2, 0⟩

theorem T_l_OrdersProved (e : S_Estate) : (lim cfg).pure 10 [S_Estate.D e] = some (B (l_OrdersProved e)) := by
  unfold l_OrdersProved
  cases h1 : (r_Valid e) with
  | true =>
    have g1 := valid_len h1
    cases h2 : (((zg e).2) != 0) with
    | true =>
      have g2 := bne_true h2
      exact zu ((l_OrdersProved_o1 e) ++ [.dec true]) (And.intro h2 (And.intro (T_orders_Gains e) (And.intro (T_orders_Fronts e) (And.intro h1 (And.intro (T_r_Valid e) (And.intro (Eq.refl true) (And.intro sane_ok trivial))))))) (by kernel_rfl)
    | false =>
      have g2 := bne_false h2
      cases h3 : (((zp e).2) != 0) with
      | true =>
        have g3 := bne_true h3
        exact zu ((l_OrdersProved_o1 e) ++ [.dec false, .dec true]) (And.intro h3 (And.intro h2 (And.intro (T_orders_Gains e) (And.intro (T_orders_Fronts e) (And.intro h1 (And.intro (T_r_Valid e) (And.intro (Eq.refl true) (And.intro sane_ok trivial)))))))) (by kernel_rfl)
      | false =>
        have g3 := bne_false h3
        cases h4 : (((((zp e).1).l.length : Nat) : Int) != ((e.items.l.length : Nat) : Int)) with
        | true =>
          have g4 := bne_true h4
          exact zu ((l_OrdersProved_o1 e) ++ ((l_OrdersProved_o2 e) ++ [.dec true])) (And.intro h4 (And.intro (zt S_Item.D e.items) (And.intro (zt I ((zp e).1)) (And.intro h3 (And.intro h2 (And.intro (T_orders_Gains e) (And.intro (T_orders_Fronts e) (And.intro h1 (And.intro (T_r_Valid e) (And.intro (Eq.refl true) (And.intro sane_ok trivial))))))))))) (by kernel_rfl)
        | false =>
          have g4 := bne_false h4
          have p1 := (zt (GS.D Arr2_Int.D 2) ((zg e).1))
          cases h5 : (((((zg e).1).l.length : Nat) : Int) != (w64 (((e.items.l.length : Nat) : Int) + 1))) with
          | true =>
            have g5 := bne_true h5
            exact zu ((l_OrdersProved_o1 e) ++ ((l_OrdersProved_o2 e) ++ [.dec false, .rw 49 (I ((((zg e).1).l.length : Nat) : Int)), .rw 52 (I ((e.items.l.length : Nat) : Int)), .dec true])) (And.intro h5 (And.intro (zt S_Item.D e.items) (And.intro p1 (And.intro h4 (And.intro (zt S_Item.D e.items) (And.intro (zt I ((zp e).1)) (And.intro h3 (And.intro h2 (And.intro (T_orders_Gains e) (And.intro (T_orders_Fronts e) (And.intro h1 (And.intro (T_r_Valid e) (And.intro (Eq.refl true) (And.intro sane_ok trivial)))))))))))))) (by kernel_rfl)
          | false =>
            have g5 := bne_false h5
            have p2 := (el_in (s := ((zg e).1)) (f := (GS.D Arr2_Int.D 2)) (k := 1) (i := 0) (by first | assumption | omega) (by first | assumption | omega | (simp only [zd] at * <;> omega)))
            have p3 := (T_eqPairs (GS.at ((zg e).1) 0) (GS.some [(⟨0, 0⟩ : Arr2_Int)]) (at_bd (fronts_bd e).2 _))
            cases h6 : (eqPairs (GS.at ((zg e).1) 0) (GS.some [(⟨0, 0⟩ : Arr2_Int)])) with
            | true =>
              cases h37 : l_OrdersProved_10 ((zg e).1) ((zp e).1) e.items.l 0 with
              | x0 =>
                try dsimp only
                exact zu ((l_OrdersProved_o1 e) ++ ((l_OrdersProved_o2 e) ++ ((l_OrdersProved_o3 e) ++ [.dec true, .rw 67 (I ((e.items.l.length : Nat) : Int)), .loop (.exit 0) (sd30183 e)]))) (And.intro (po_lr (q := lr_l_OrdersProved_10 e ((zg e).1) ((zp e).1)) (lp_l_OrdersProved_10 e ((zg e).1) ((zp e).1) e.items.l 0 (List.drop_zero) (Nat.zero_le _) (by first | assumption | omega) (by first | assumption | omega | (simp only [zd] at * <;> omega)) (by first | assumption | omega) (by first | assumption | omega | (with_reducible exact zf) | (with_reducible exact Nat.le_trans zh (by omega)) | (exact zj hi0 rfl (z6 (by simp)) (by simp)) | (exact zi (by assumption) (z6 (by omega)) (by omega)) | (exact rowsR_two hi0 rfl (zv (by decide)) (by decide)) | (exact rowsR_app (by assumption) (zv (by omega)) (by omega)) | (exact fronts_ne (by assumption)) | (simp only [zd] at * <;> omega) | (simp only [zb, z8, za, z7, zc, ze, GS.nil_len, GS.some_l, List.length_set, List.length_append, List.length_cons, List.length_nil] at * <;> first | with_reducible assumption | omega) | (simp only [zb, z8, za, z7, zc, ze, GS.nil_len, GS.some_l, List.length_set, List.length_append, List.length_cons, List.length_nil, zd] at * <;> first | with_reducible assumption | omega) | (simp at * <;> omega)) (by first | assumption | omega)) h37) (And.intro (zt S_Item.D e.items) (And.intro h6 (And.intro p3 (And.intro p2 (And.intro h5 (And.intro (zt S_Item.D e.items) (And.intro p1 (And.intro h4 (And.intro (zt S_Item.D e.items) (And.intro (zt I ((zp e).1)) (And.intro h3 (And.intro h2 (And.intro (T_orders_Gains e) (And.intro (T_orders_Fronts e) (And.intro h1 (And.intro (T_r_Valid e) (And.intro (Eq.refl true) (And.intro sane_ok trivial))))))))))))))))))) (by kernel_rfl)
              | x1 i10 x10 =>
                try dsimp only
                exact zu ((l_OrdersProved_o1 e) ++ ((l_OrdersProved_o2 e) ++ ((l_OrdersProved_o3 e) ++ [.dec true, .rw 67 (I ((e.items.l.length : Nat) : Int)), .loop .ret (sd30184 e i10 x10)]))) (And.intro (po_lr (q := lr_l_OrdersProved_10 e ((zg e).1) ((zp e).1)) (lp_l_OrdersProved_10 e ((zg e).1) ((zp e).1) e.items.l 0 (List.drop_zero) (Nat.zero_le _) (by first | assumption | omega) (by first | assumption | omega | (simp only [zd] at * <;> omega)) (by first | assumption | omega) (by first | assumption | omega | (with_reducible exact zf) | (with_reducible exact Nat.le_trans zh (by omega)) | (exact zj hi0 rfl (z6 (by simp)) (by simp)) | (exact zi (by assumption) (z6 (by omega)) (by omega)) | (exact rowsR_two hi0 rfl (zv (by decide)) (by decide)) | (exact rowsR_app (by assumption) (zv (by omega)) (by omega)) | (exact fronts_ne (by assumption)) | (simp only [zd] at * <;> omega) | (simp only [zb, z8, za, z7, zc, ze, GS.nil_len, GS.some_l, List.length_set, List.length_append, List.length_cons, List.length_nil] at * <;> first | with_reducible assumption | omega) | (simp only [zb, z8, za, z7, zc, ze, GS.nil_len, GS.some_l, List.length_set, List.length_append, List.length_cons, List.length_nil, zd] at * <;> first | with_reducible assumption | omega) | (simp at * <;> omega)) (by first | assumption | omega)) h37) (And.intro (zt S_Item.D e.items) (And.intro h6 (And.intro p3 (And.intro p2 (And.intro h5 (And.intro (zt S_Item.D e.items) (And.intro p1 (And.intro h4 (And.intro (zt S_Item.D e.items) (And.intro (zt I ((zp e).1)) (And.intro h3 (And.intro h2 (And.intro (T_orders_Gains e) (And.intro (T_orders_Fronts e) (And.intro h1 (And.intro (T_r_Valid e) (And.intro (Eq.refl true) (And.intro sane_ok trivial))))))))))))))))))) (by kernel_rfl)
              | x2 i10 x10 =>
                try dsimp only
                exact zu ((l_OrdersProved_o1 e) ++ ((l_OrdersProved_o2 e) ++ ((l_OrdersProved_o3 e) ++ [.dec true, .rw 67 (I ((e.items.l.length : Nat) : Int)), .loop .ret (sd30185 e i10 x10)]))) (And.intro (po_lr (q := lr_l_OrdersProved_10 e ((zg e).1) ((zp e).1)) (lp_l_OrdersProved_10 e ((zg e).1) ((zp e).1) e.items.l 0 (List.drop_zero) (Nat.zero_le _) (by first | assumption | omega) (by first | assumption | omega | (simp only [zd] at * <;> omega)) (by first | assumption | omega) (by first | assumption | omega | (with_reducible exact zf) | (with_reducible exact Nat.le_trans zh (by omega)) | (exact zj hi0 rfl (z6 (by simp)) (by simp)) | (exact zi (by assumption) (z6 (by omega)) (by omega)) | (exact rowsR_two hi0 rfl (zv (by decide)) (by decide)) | (exact rowsR_app (by assumption) (zv (by omega)) (by omega)) | (exact fronts_ne (by assumption)) | (simp only [zd] at * <;> omega) | (simp only [zb, z8, za, z7, zc, ze, GS.nil_len, GS.some_l, List.length_set, List.length_append, List.length_cons, List.length_nil] at * <;> first | with_reducible assumption | omega) | (simp only [zb, z8, za, z7, zc, ze, GS.nil_len, GS.some_l, List.length_set, List.length_append, List.length_cons, List.length_nil, zd] at * <;> first | with_reducible assumption | omega) | (simp at * <;> omega)) (by first | assumption | omega)) h37) (And.intro (zt S_Item.D e.items) (And.intro h6 (And.intro p3 (And.intro p2 (And.intro h5 (And.intro (zt S_Item.D e.items) (And.intro p1 (And.intro h4 (And.intro (zt S_Item.D e.items) (And.intro (zt I ((zp e).1)) (And.intro h3 (And.intro h2 (And.intro (T_orders_Gains e) (And.intro (T_orders_Fronts e) (And.intro h1 (And.intro (T_r_Valid e) (And.intro (Eq.refl true) (And.intro sane_ok trivial))))))))))))))))))) (by kernel_rfl)
              | x3 i10 i28 x28 va17_0_1 =>
                try dsimp only
                exact zu ((l_OrdersProved_o1 e) ++ ((l_OrdersProved_o2 e) ++ ((l_OrdersProved_o3 e) ++ [.dec true, .rw 67 (I ((e.items.l.length : Nat) : Int)), .loop .ret (sd30186 e i10 i28 x28 va17_0_1)]))) (And.intro (po_lr (q := lr_l_OrdersProved_10 e ((zg e).1) ((zp e).1)) (lp_l_OrdersProved_10 e ((zg e).1) ((zp e).1) e.items.l 0 (List.drop_zero) (Nat.zero_le _) (by first | assumption | omega) (by first | assumption | omega | (simp only [zd] at * <;> omega)) (by first | assumption | omega) (by first | assumption | omega | (with_reducible exact zf) | (with_reducible exact Nat.le_trans zh (by omega)) | (exact zj hi0 rfl (z6 (by simp)) (by simp)) | (exact zi (by assumption) (z6 (by omega)) (by omega)) | (exact rowsR_two hi0 rfl (zv (by decide)) (by decide)) | (exact rowsR_app (by assumption) (zv (by omega)) (by omega)) | (exact fronts_ne (by assumption)) | (simp only [zd] at * <;> omega) | (simp only [zb, z8, za, z7, zc, ze, GS.nil_len, GS.some_l, List.length_set, List.length_append, List.length_cons, List.length_nil] at * <;> first | with_reducible assumption | omega) | (simp only [zb, z8, za, z7, zc, ze, GS.nil_len, GS.some_l, List.length_set, List.length_append, List.length_cons, List.length_nil, zd] at * <;> first | with_reducible assumption | omega) | (simp at * <;> omega)) (by first | assumption | omega)) h37) (And.intro (zt S_Item.D e.items) (And.intro h6 (And.intro p3 (And.intro p2 (And.intro h5 (And.intro (zt S_Item.D e.items) (And.intro p1 (And.intro h4 (And.intro (zt S_Item.D e.items) (And.intro (zt I ((zp e).1)) (And.intro h3 (And.intro h2 (And.intro (T_orders_Gains e) (And.intro (T_orders_Fronts e) (And.intro h1 (And.intro (T_r_Valid e) (And.intro (Eq.refl true) (And.intro sane_ok trivial))))))))))))))))))) (by kernel_rfl)
              | x4 i10 i22 x22 va17_0_1 =>
                try dsimp only
                exact zu ((l_OrdersProved_o1 e) ++ ((l_OrdersProved_o2 e) ++ ((l_OrdersProved_o3 e) ++ [.dec true, .rw 67 (I ((e.items.l.length : Nat) : Int)), .loop .ret (sd30187 e i10 i22 x22 va17_0_1)]))) (And.intro (po_lr (q := lr_l_OrdersProved_10 e ((zg e).1) ((zp e).1)) (lp_l_OrdersProved_10 e ((zg e).1) ((zp e).1) e.items.l 0 (List.drop_zero) (Nat.zero_le _) (by first | assumption | omega) (by first | assumption | omega | (simp only [zd] at * <;> omega)) (by first | assumption | omega) (by first | assumption | omega | (with_reducible exact zf) | (with_reducible exact Nat.le_trans zh (by omega)) | (exact zj hi0 rfl (z6 (by simp)) (by simp)) | (exact zi (by assumption) (z6 (by omega)) (by omega)) | (exact rowsR_two hi0 rfl (zv (by decide)) (by decide)) | (exact rowsR_app (by assumption) (zv (by omega)) (by omega)) | (exact fronts_ne (by assumption)) | (simp only [zd] at * <;> omega) | (simp only [zb, z8, za, z7, zc, ze, GS.nil_len, GS.some_l, List.length_set, List.length_append, List.length_cons, List.length_nil] at * <;> first | with_reducible assumption | omega) | (simp only [zb, z8, za, z7, zc, ze, GS.nil_len, GS.some_l, List.length_set, List.length_append, List.length_cons, List.length_nil, zd] at * <;> first | with_reducible assumption | omega) | (simp at * <;> omega)) (by first | assumption | omega)) h37) (And.intro (zt S_Item.D e.items) (And.intro h6 (And.intro p3 (And.intro p2 (And.intro h5 (And.intro (zt S_Item.D e.items) (And.intro p1 (And.intro h4 (And.intro (zt S_Item.D e.items) (And.intro (zt I ((zp e).1)) (And.intro h3 (And.intro h2 (And.intro (T_orders_Gains e) (And.intro (T_orders_Fronts e) (And.intro h1 (And.intro (T_r_Valid e) (And.intro (Eq.refl true) (And.intro sane_ok trivial))))))))))))))))))) (by kernel_rfl)
              | x5 i10 i22 x22 va17_0_1 =>
                try dsimp only
                exact zu ((l_OrdersProved_o1 e) ++ ((l_OrdersProved_o2 e) ++ ((l_OrdersProved_o3 e) ++ [.dec true, .rw 67 (I ((e.items.l.length : Nat) : Int)), .loop .ret (sd30188 e i10 i22 x22 va17_0_1)]))) (And.intro (po_lr (q := lr_l_OrdersProved_10 e ((zg e).1) ((zp e).1)) (lp_l_OrdersProved_10 e ((zg e).1) ((zp e).1) e.items.l 0 (List.drop_zero) (Nat.zero_le _) (by first | assumption | omega) (by first | assumption | omega | (simp only [zd] at * <;> omega)) (by first | assumption | omega) (by first | assumption | omega | (with_reducible exact zf) | (with_reducible exact Nat.le_trans zh (by omega)) | (exact zj hi0 rfl (z6 (by simp)) (by simp)) | (exact zi (by assumption) (z6 (by omega)) (by omega)) | (exact rowsR_two hi0 rfl (zv (by decide)) (by decide)) | (exact rowsR_app (by assumption) (zv (by omega)) (by omega)) | (exact fronts_ne (by assumption)) | (simp only [zd] at * <;> omega) | (simp only [zb, z8, za, z7, zc, ze, GS.nil_len, GS.some_l, List.length_set, List.length_append, List.length_cons, List.length_nil] at * <;> first | with_reducible assumption | omega) | (simp only [zb, z8, za, z7, zc, ze, GS.nil_len, GS.some_l, List.length_set, List.length_append, List.length_cons, List.length_nil, zd] at * <;> first | with_reducible assumption | omega) | (simp at * <;> omega)) (by first | assumption | omega)) h37) (And.intro (zt S_Item.D e.items) (And.intro h6 (And.intro p3 (And.intro p2 (And.intro h5 (And.intro (zt S_Item.D e.items) (And.intro p1 (And.intro h4 (And.intro (zt S_Item.D e.items) (And.intro (zt I ((zp e).1)) (And.intro h3 (And.intro h2 (And.intro (T_orders_Gains e) (And.intro (T_orders_Fronts e) (And.intro h1 (And.intro (T_r_Valid e) (And.intro (Eq.refl true) (And.intro sane_ok trivial))))))))))))))))))) (by kernel_rfl)
              | x6 i10 i22 x22 va17_0_1 =>
                try dsimp only
                exact zu ((l_OrdersProved_o1 e) ++ ((l_OrdersProved_o2 e) ++ ((l_OrdersProved_o3 e) ++ [.dec true, .rw 67 (I ((e.items.l.length : Nat) : Int)), .loop .ret (sd30189 e i10 i22 x22 va17_0_1)]))) (And.intro (po_lr (q := lr_l_OrdersProved_10 e ((zg e).1) ((zp e).1)) (lp_l_OrdersProved_10 e ((zg e).1) ((zp e).1) e.items.l 0 (List.drop_zero) (Nat.zero_le _) (by first | assumption | omega) (by first | assumption | omega | (simp only [zd] at * <;> omega)) (by first | assumption | omega) (by first | assumption | omega | (with_reducible exact zf) | (with_reducible exact Nat.le_trans zh (by omega)) | (exact zj hi0 rfl (z6 (by simp)) (by simp)) | (exact zi (by assumption) (z6 (by omega)) (by omega)) | (exact rowsR_two hi0 rfl (zv (by decide)) (by decide)) | (exact rowsR_app (by assumption) (zv (by omega)) (by omega)) | (exact fronts_ne (by assumption)) | (simp only [zd] at * <;> omega) | (simp only [zb, z8, za, z7, zc, ze, GS.nil_len, GS.some_l, List.length_set, List.length_append, List.length_cons, List.length_nil] at * <;> first | with_reducible assumption | omega) | (simp only [zb, z8, za, z7, zc, ze, GS.nil_len, GS.some_l, List.length_set, List.length_append, List.length_cons, List.length_nil, zd] at * <;> first | with_reducible assumption | omega) | (simp at * <;> omega)) (by first | assumption | omega)) h37) (And.intro (zt S_Item.D e.items) (And.intro h6 (And.intro p3 (And.intro p2 (And.intro h5 (And.intro (zt S_Item.D e.items) (And.intro p1 (And.intro h4 (And.intro (zt S_Item.D e.items) (And.intro (zt I ((zp e).1)) (And.intro h3 (And.intro h2 (And.intro (T_orders_Gains e) (And.intro (T_orders_Fronts e) (And.intro h1 (And.intro (T_r_Valid e) (And.intro (Eq.refl true) (And.intro sane_ok trivial))))))))))))))))))) (by kernel_rfl)
            | false =>
              exact zu ((l_OrdersProved_o1 e) ++ ((l_OrdersProved_o2 e) ++ ((l_OrdersProved_o3 e) ++ [.dec false]))) (And.intro h6 (And.intro p3 (And.intro p2 (And.intro h5 (And.intro (zt S_Item.D e.items) (And.intro p1 (And.intro h4 (And.intro (zt S_Item.D e.items) (And.intro (zt I ((zp e).1)) (And.intro h3 (And.intro h2 (And.intro (T_orders_Gains e) (And.intro (T_orders_Fronts e) (And.intro h1 (And.intro (T_r_Valid e) (And.intro (Eq.refl true) (And.intro sane_ok trivial))))))))))))))))) (by kernel_rfl)
  | false =>
    exact zu [.pure (B true), .dec true, .pure (B (r_Valid e)), .dec false] (And.intro h1 (And.intro (T_r_Valid e) (And.intro (Eq.refl true) (And.intro sane_ok trivial)))) (by kernel_rfl)
end Go.VS

/-
  The seat's program: its tables are right; what its arguments stand for. (Printed by go/oq.py, a program of this claim's own; nothing of it is trusted.)
-/
namespace Go.VS
open Go Go.Proofs Go.RowKit Go.ChangeShapes Go.WideShapes
set_option maxRecDepth 100000
theorem laid_out : laidOutB Try.prog = true := by kernel_rfl
theorem maps_rowed : mapsRowed Try.prog = true := by kernel_rfl
theorem sl_full : ∀ t e, t < Try.prog.types.size → Try.prog.underlying t = some (.slice e) → 0 < Try.prog.cellsOf e := slices_full_of Try.prog (by kernel_rfl)
theorem i64_min : IntKind.i64.min = -9223372036854775808 := by rfl
theorem i64_max : IntKind.i64.max = 9223372036854775807 := by rfl
def R64 (n : Int) : Prop := -9223372036854775808 ≤ n ∧ n ≤ 9223372036854775807
section
variable {H : Type} {enc : TypeId × Value → H} {w : World} {base base' : Nat} {sp : Nat → Bool} {held : Bool} {t : TypeId} {v : Value} {d : DataW H} {p : List MemPlace} {r : Reach}
theorem arg_rep (h : DataW.Trod enc Try.prog w base sp held t v d p) (hv : Value.okWide Try.prog w r base' t v) (ht : topT cfg 8 t = true) (hr : rowedT cfg 8 t = true) :
    ∃ ds, zA (memOf w) noLoc ds v.cells.toList ∧ Sh cfg 8 t ds := by
  obtain ⟨n, hn⟩ := h
  exact trod_rep (C := cfg) (fun t ty h => tyTab_ok.find h) 8 n t _ _ hn ht hr (.inl (plain_arg hv))
theorem agg_of (hv : Value.okWide Try.prog w r base' t v) (hs : (∃ fs, Try.prog.underlying t = some (.struct fs)) ∨ (∃ n e, Try.prog.underlying t = some (.array n e))) : ∃ cs, v = .agg cs := by
  unfold Value.okWide at hv
  rcases hs with ⟨fs, hs⟩ | ⟨n, e, hs⟩ <;> rw [hs] at hv <;> simp only [] at hv <;> obtain ⟨cs, rfl, _⟩ := hv <;> exact ⟨cs, rfl⟩
end
theorem sh3 {f : Nat} {ds : List D} (h : Sh cfg (f + 1) 3 ds) : ∃ x : Int, ds = [I x] ∧ R64 x := by
  rw [Sh, cfg_ty, cty3] at h
  simp only [ty3] at h
  obtain ⟨n, h1, h2, h3⟩ := h
  rw [i64_min] at h2
  rw [i64_max] at h3
  exact ⟨n, h1, h2, h3⟩
theorem sh24 {f : Nat} {ds : List D} (h : Sh cfg (f + 2) 24 ds) : ∃ x : S_Span, ds = [I x.lo, I x.hi] ∧ True := by
  rw [Sh, cfg_ty, cty24] at h
  simp only [ty24] at h
  obtain ⟨hl, hf⟩ := h
  obtain ⟨t0, q0, z0⟩ := hf (3, 0) (by simp)
  obtain rfl : t0 = ty3 := (Option.some.inj (cty3.symm.trans q0)).symm
  obtain ⟨x0, e0, r0⟩ := sh3 (f := f + 0) z0
  obtain ⟨t1, q1, z1⟩ := hf (3, 1) (by simp)
  obtain rfl : t1 = ty3 := (Option.some.inj (cty3.symm.trans q1)).symm
  obtain ⟨x1, e1, r1⟩ := sh3 (f := f + 0) z1
  rcases ds with _ | ⟨c0, _ | ⟨c1, _ | ⟨y, r⟩⟩⟩
  all_goals simp at hl
  simp [ty3] at e0
  simp [ty3] at e1
  exact ⟨⟨x0, x1⟩, by simp [*], trivial⟩
theorem sh70 {f : Nat} {ds : List D} (h : Sh cfg (f + 3) 70 ds) : ∃ x : S_Item, ds = [I x.now.lo, I x.now.hi, I x.cost, I x.error] ∧ True := by
  rw [Sh, cfg_ty, cty70] at h
  simp only [ty70] at h
  obtain ⟨hl, hf⟩ := h
  obtain ⟨t0, q0, z0⟩ := hf (24, 0) (by simp)
  obtain rfl : t0 = ty24 := (Option.some.inj (cty24.symm.trans q0)).symm
  obtain ⟨x0, e0, r0⟩ := sh24 (f := f + 0) z0
  obtain ⟨t1, q1, z1⟩ := hf (3, 2) (by simp)
  obtain rfl : t1 = ty3 := (Option.some.inj (cty3.symm.trans q1)).symm
  obtain ⟨x1, e1, r1⟩ := sh3 (f := f + 1) z1
  obtain ⟨t2, q2, z2⟩ := hf (3, 3) (by simp)
  obtain rfl : t2 = ty3 := (Option.some.inj (cty3.symm.trans q2)).symm
  obtain ⟨x2, e2, r2⟩ := sh3 (f := f + 1) z2
  rcases ds with _ | ⟨c0, _ | ⟨c1, _ | ⟨c2, _ | ⟨c3, _ | ⟨y, r⟩⟩⟩⟩⟩
  all_goals simp at hl
  simp [ty24] at e0
  simp [ty3] at e1
  simp [ty3] at e2
  exact ⟨⟨x0, x1, x2⟩, by simp [*], trivial⟩
theorem sh22 {f : Nat} {ds : List D} (h : Sh cfg (f + 4) 22 ds) : ∃ x : GS S_Item, ds = [.sl x.nl (x.l.map S_Item.D) (zsl x.nl 4) none] ∧ x.l.length ≤ 9223372036854775807 := by
  rw [Sh, cfg_ty, cty22] at h
  simp only [ty22] at h
  rcases h with h | ⟨els, te, h1, h2, h3, h4⟩
  · exact ⟨GS.nil, h, by simp [GS.nil]⟩
  · obtain rfl : te = ty70 := (Option.some.inj (cty70.symm.trans h1)).symm
    have key : ∀ els : List D, (∀ d ∈ els, Sh cfg (f + 3) 70 d.cells ∧ (ty70.isAgg = true → d = .agg d.cells) ∧ (ty70.isAgg = false → d.cells = [d])) → ∃ l : List S_Item, els = l.map S_Item.D := by
      intro els
      induction els with
      | nil => intro _; exact ⟨[], rfl⟩
      | cons d els ih =>
        intro hd
        obtain ⟨l, hl⟩ := ih fun d' h' => hd d' (List.mem_cons_of_mem _ h')
        obtain ⟨q1, q2, q3⟩ := hd d (by simp)
        obtain ⟨a, e, _⟩ := sh70 (f := f + 0) q1
        have hx : d = S_Item.D a := by rw [q2 rfl, e]; rfl
        exact ⟨a :: l, by rw [List.map_cons, ← hx, ← hl]⟩
    obtain ⟨l, rfl⟩ := key els h4
    refine ⟨GS.some l, h2, ?_⟩
    simp only [List.length_map, maxLen] at h3
    simp only [GS.some]
    omega
theorem sh26 {f : Nat} {ds : List D} (h : Sh cfg (f + 5) 26 ds) : ∃ x : S_Estate, ds = [.sl x.items.nl (x.items.l.map S_Item.D) (zsl x.items.nl 4) none, I x.whole.lo, I x.whole.hi] ∧ x.items.l.length ≤ 9223372036854775807 := by
  rw [Sh, cfg_ty, cty26] at h
  simp only [ty26] at h
  obtain ⟨hl, hf⟩ := h
  obtain ⟨t0, q0, z0⟩ := hf (22, 0) (by simp)
  obtain rfl : t0 = ty22 := (Option.some.inj (cty22.symm.trans q0)).symm
  obtain ⟨x0, e0, r0⟩ := sh22 (f := f + 0) z0
  obtain ⟨t1, q1, z1⟩ := hf (24, 1) (by simp)
  obtain rfl : t1 = ty24 := (Option.some.inj (cty24.symm.trans q1)).symm
  obtain ⟨x1, e1, r1⟩ := sh24 (f := f + 2) z1
  rcases ds with _ | ⟨c0, _ | ⟨c1, _ | ⟨c2, _ | ⟨y, r⟩⟩⟩⟩
  all_goals simp at hl
  simp [ty22] at e0
  simp [ty24] at e1
  exact ⟨⟨x0, x1⟩, by simp [*], r0⟩
theorem arg26 {H : Type} {enc : TypeId × Value → H} {w : World} {base base' : Nat} {sp : Nat → Bool} {held : Bool} {v : Value} {d : DataW H} {p : List MemPlace} {r : Reach} (h : DataW.Trod enc Try.prog w base sp held 26 v d p) (hv : Value.okWide Try.prog w r base' 26 v) : ∃ x : S_Estate, Rep (memOf w) noLoc (S_Estate.D x) v ∧ x.items.l.length ≤ 9223372036854775807 := by
  obtain ⟨ds, h1, h2⟩ := arg_rep h hv (by kernel_rfl) (by kernel_rfl)
  obtain ⟨x, rfl, hx⟩ := sh26 (f := 3) h2
  obtain ⟨cs, rfl⟩ := agg_of hv (.inl ⟨_, Try.underlying26⟩)
  refine ⟨x, ?_, hx⟩
  simp only [Rep, S_Estate.D]
  exact ⟨cs, rfl, by simpa [Value.cells] using h1⟩
end Go.VS

/-
  Orders: OrdersProved answers true. (A text of this claim's own; nothing of it is trusted.)
-/
namespace Go.VS
open Go Go.Proofs
set_option maxHeartbeats 0
theorem idxP (v : Arr2_Int) : ∀ (l : List Arr2_Int) (i : Nat), v ∈ l → ∃ j y, idxPairs_2 v l i = .x1 j y
  | [], _, h => by cases h
  | x :: l, i, h => by
    unfold idxPairs_2
    cases hc : ((v.x0 == x.x0) && ((v.x1 == x.x1) && true)) with
    | true => exact ⟨_, _, rfl⟩
    | false =>
      rcases List.mem_cons.1 h with rfl | h
      · simp at hc
      · exact idxP v l (i + 1) h
theorem hasP {s : GS Arr2_Int} {v : Arr2_Int} (h : v ∈ s.l) : hasPair s v = true := by
  obtain ⟨j, y, e⟩ := idxP v s.l 0 h
  unfold hasPair idxPairs
  rw [e]
  simp only []
  rw [decide_eq_true (by omega)]; rfl
theorem idxD (p : Arr2_Int) : ∀ (l : List Arr2_Int) (i : Nat), (∃ q ∈ l, q.x0 ≤ p.x0 ∧ p.x1 ≤ q.x1) → ∃ j y, idxDom_2 p l i = .x1 j y
  | [], _, ⟨_, h, _⟩ => by cases h
  | x :: l, i, ⟨q, h, h0, h1⟩ => by
    unfold idxDom_2
    cases hc : doms x p with
    | true => exact ⟨_, _, rfl⟩
    | false =>
      rcases List.mem_cons.1 h with rfl | h
      · unfold doms at hc
        rw [decide_eq_true h0, decide_eq_true (show q.x1 ≥ p.x1 from h1)] at hc
        cases hc
      · exact idxD p l (i + 1) ⟨q, h, h0, h1⟩
theorem hasD {s : GS Arr2_Int} {p : Arr2_Int} (h : ∃ q ∈ s.l, q.x0 ≤ p.x0 ∧ p.x1 ≤ q.x1) : hasDom s p = true := by
  obtain ⟨j, y, e⟩ := idxD p s.l 0 h
  unfold hasDom idxDom
  rw [e]
  simp only []
  rw [decide_eq_true (by omega)]; rfl
theorem p17a (g : GS Int) (x : S_Item) (k : Int) : ∀ (l v : List Arr2_Int), zN g x k l v = .x0 (v ++ l.flatMap fun p => [p, ⟨w64 (p.x0 + x.cost), w64 (p.x1 + g.at k)⟩])
  | [], v => by simp [zN]
  | y :: l, v => by
    unfold zN
    rw [p17a g x k l]
    simp
theorem p17 {g : GS Int} {x : S_Item} {k : Int} {l : List Arr2_Int} (h : l ≠ []) (hg : g.at k = r_Gain x) : ∃ va, l_OrdersProved_17 g x k l = .x0 va ∧ ∀ p, p ∈ va ↔ p ∈ l ++ l.map (shf x) := by
  cases l with
  | nil => exact absurd rfl h
  | cons y l =>
    refine ⟨_, p17a g x k l _, fun p => ?_⟩
    rw [hg]
    simp only [List.mem_append, List.mem_flatMap, List.mem_cons, List.not_mem_nil, or_false, List.mem_map, shf]
    constructor
    · rintro ((h | h) | ⟨q, hq, h | h⟩)
      · exact .inl (.inl h)
      · exact .inr ⟨y, .inl rfl, h.symm⟩
      · exact .inl (.inr (h ▸ hq))
      · exact .inr ⟨q, .inr hq, h.symm⟩
    · rintro ((h | h) | ⟨q, h | hq, h1⟩)
      · exact .inl (.inl h)
      · exact .inr ⟨p, h, .inl rfl⟩
      · subst h; exact .inl (.inr h1.symm)
      · exact .inr ⟨q, hq, .inr h1.symm⟩
theorem p22 {va : List Arr2_Int} {s : GS Arr2_Int} (hm : ∀ p ∈ s.l, p ∈ va) (hp : s.l.Pairwise fun a b => a.x0 < b.x0 ∧ a.x1 < b.x1) (hl : s.l.length ≤ 4096) : ∀ (l : List Arr2_Int) (i : Nat), s.l.drop i = l → l_OrdersProved_22 va s l i = .x0
  | [], i, _ => rfl
  | x :: l, i, h => by
    have hx := mem_drop h
    have hlt := zw h
    have hnx := p22 hm hp hl l (i + 1) (by rw [← List.drop_drop, h]; rfl)
    unfold l_OrdersProved_22
    rw [hasP (s := GS.some va) (hm x hx), cond_true]
    cases c1 : decide (((i : Nat) : Int) > 0) with
    | false => exact hnx
    | true =>
      have d1 := of_decide_eq_true c1
      have e : s.at (w64 ((i : Int) - 1)) = s.l[i - 1] := by
        rw [w64_eq (by omega) (by omega)]
        show s.l.getD ((i : Int) - 1).toNat default = _
        rw [show ((i : Int) - 1).toNat = i - 1 from by omega, getD_of_lt (by omega)]
      have ex : s.l[i] = x := by
        have : s.l[i]? = some x := by rw [← List.head?_drop, h]; rfl
        rw [List.getElem?_eq_getElem hlt] at this
        exact Option.some.inj this
      have := List.pairwise_iff_getElem.1 hp (i - 1) i (by omega) hlt (by omega)
      rw [ex] at this
      rw [e, decide_eq_false (by omega), decide_eq_false (by omega)]
      exact hnx
theorem p28 {va : List Arr2_Int} {s : GS Arr2_Int} (hd : ∀ p ∈ va, ∃ q ∈ s.l, q.x0 ≤ p.x0 ∧ p.x1 ≤ q.x1) : ∀ (l : List Arr2_Int) (i : Nat), (∀ p ∈ l, p ∈ va) → l_OrdersProved_28 va s l i = .x0
  | [], i, _ => rfl
  | x :: l, i, h => by
    unfold l_OrdersProved_28
    rw [hasD (hd x (h x (by simp))), cond_true]
    exact p28 hd l (i + 1) fun p hp => h p (List.mem_cons_of_mem _ hp)
theorem frs_at : ∀ (l : List S_Item) (k : Nat) (q : List Arr2_Int), Good k q → k + l.length ≤ 12 → (∀ x ∈ l, OkItem x) → ∀ (i : Nat) (x : S_Item), l[i]? = some x →
    ∃ a, (q :: frs l q)[i]? = some a ∧ (q :: frs l q)[i + 1]? = some (nf a x) ∧ Good (k + i) a
  | [], _, _, _, _, _, i, x, h => by simp at h
  | y :: l, k, q, hg, hl, ho, 0, x, h => by
    simp at h; subst h
    exact ⟨q, rfl, rfl, hg⟩
  | y :: l, k, q, hg, hl, ho, i + 1, x, h => by
    simp only [List.length_cons] at hl
    obtain ⟨a, h1, h2, h3⟩ := frs_at l (k + 1) (nf q y) (hg.next (by omega) (ho y (by simp))) (by omega) (fun z hz => ho z (List.mem_cons_of_mem _ hz)) i x (by simpa using h)
    exact ⟨a, h1, h2, by rw [show k + (i + 1) = k + 1 + i from by omega]; exact h3⟩
def okP : LR_l_OrdersProved_10 → Bool
  | .x0 => true
  | .x1 _ _ => true
  | .x2 _ _ => true
  | _ => false
theorem p10 {e : S_Estate} (h : V e) {g : GS Int} (hgl : g.l = Gl e) : ∀ (l : List S_Item) (i : Nat), e.items.l.drop i = l → okP (l_OrdersProved_10 (GS.some ((frAll e).map GS.some)) g l i) = true
  | [], i, _ => rfl
  | x :: l, i, hd => by
    have hlt := zw hd
    have hn := h.n2
    have hxi : e.items.l[i]? = some x := by rw [← List.head?_drop, hd]; rfl
    obtain ⟨a, h1, h2, h3⟩ := frs_at e.items.l 0 [⟨0, 0⟩] good0 (by omega) h.it i x hxi
    have hx := h.it x (mem_drop hd)
    have h1' : (frAll e)[i]? = some a := h1
    have h2' : (frAll e)[i + 1]? = some (nf a x) := h2
    have e1 : (GS.some ((frAll e).map GS.some)).at (i : Int) = GS.some a := by
      rw [at_get, GS.some_l, List.getD_eq_getElem?_getD, List.getElem?_map, h1']; rfl
    have e2 : (GS.some ((frAll e).map GS.some)).at ((i + 1 : Nat) : Int) = GS.some (nf a x) := by
      rw [at_get, GS.some_l, List.getD_eq_getElem?_getD, List.getElem?_map, h2']; rfl
    have hg : g.at (i : Int) = r_Gain x := by
      rw [at_get, hgl, ← gain_same, gain_eq hx]
      unfold Gl
      rw [List.getD_eq_getElem?_getD, List.getElem?_map, hxi]; rfl
    unfold l_OrdersProved_10
    rw [e1, e2]
    rw [Bool.cond_eq_ite]
    split
    · rfl
    rw [Bool.cond_eq_ite]
    split
    · rfl
    have hne : a ≠ [] := fun e => by have := h3.ne; rw [e] at this; simp at this
    obtain ⟨va, q1, q2⟩ := p17 (l := (GS.some a).l) hne hg
    rw [q1]
    simp only []
    have hi12 : 0 + i < 12 := by omega
    have hf := (nf_is (x := x) h3 hi12).congr fun p => (q2 p).symm
    have hlen : (nf a x).length ≤ 4096 := by
      have := (nf_len (x := x) h3).2
      exact Nat.le_trans this (Nat.le_trans (Nat.pow_le_pow_right (by omega) (by omega : 0 + i + 1 ≤ 12)) (by decide))
    rw [p22 (s := GS.some (nf a x)) hf.of hf.inc hlen (GS.some (nf a x)).l 0 rfl]
    simp only []
    rw [p28 (s := GS.some (nf a x)) hf.dom va 0 (fun p hp => hp)]
    simp only []
    exact p10 h hgl l (i + 1) (by rw [← List.drop_drop, hd]; rfl)
theorem proved_true (e : S_Estate) : l_OrdersProved e = true := by
  unfold l_OrdersProved
  cases hv : r_Valid e with
  | false => rfl
  | true =>
    have h := valid_iff.1 hv
    have hn := h.n2
    obtain ⟨g1, g2⟩ := gainsF_eq h
    have hf : zg e = (GS.some ((frAll e).map GS.some), 0) := by rw [bothFronts, rfronts_eq h]
    have hlen : (GS.some ((frAll e).map GS.some)).l.length = e.items.l.length + 1 := by
      rw [GS.some_l, List.length_map]; simp [frAll, frs_len]
    have hgl : (zp e).1.l.length = e.items.l.length := by rw [g2]; unfold Gl; simp
    have he : eqPairs ((GS.some ((frAll e).map GS.some)).at 0) (GS.some [⟨0, 0⟩]) = true := by
      rw [← sp_eq]; exact sp_refl _
    rw [hf, g1]
    simp only [cond_true, bne_self_eq_false, cond_false, hlen, hgl, he]
    rw [w64_eq (by omega) (by omega), show (((e.items.l.length + 1 : Nat) : Int) != (e.items.l.length : Int) + 1) = false from by simp, cond_false]
    have hk := p10 h g2 e.items.l 0 rfl
    cases hr : l_OrdersProved_10 (GS.some ((frAll e).map GS.some)) (zp e).1 e.items.l 0 <;> rw [hr] at hk <;> first | rfl | (simp [okP] at hk)
theorem law_proved (e : S_Estate) : e.items.l.length ≤ 9223372036854775807 → (lim cfg).pure 10 [S_Estate.D e] = some (B true) := fun _ => by
  rw [T_l_OrdersProved e, proved_true]
end Go.VS

