/- Nothing of a statement is proved in this text alone: it is part 5 of the proof's own tools, an evaluator of the code over deep values, its soundness, and what it makes of this seat's functions. Conditions: none beyond the statement's own. -/
import Derived.Test.YtbndhgnkgoggmaaDoorVsCardE4
set_option linter.unusedSimpArgs false
set_option linter.unusedVariables false
/-
  What the arguments of the laws stand for, type by type. (Printed by gen/q2.py, a program of this claim's own; nothing of it is trusted.)
-/
namespace Go.VS
open Go Go.Proofs
theorem list_eq {α : Type} {l l' : List α} (h : l = l') : l' = l := h.symm
def Mark.R (m : Mark) : Prop := R64 m.sheet ∧ R64 m.axis ∧ R64 m.tru ∧ R64 m.seen ∧ R64 m.err
def Join.R (m : Join) : Prop := R64 m.a ∧ R64 m.b ∧ R64 m.axis ∧ R64 m.seenA ∧ R64 m.errA ∧ R64 m.seenB ∧ R64 m.errB
def F4.R (m : F4) : Prop := R64 m.xn ∧ R64 m.xd ∧ R64 m.yn ∧ R64 m.yd
def Reason.R (m : Reason) : Prop := R64 m.at_
def Paper.R (p : Paper) : Prop := R64 p.sheets ∧ (∀ m ∈ p.marks, m.R) ∧ (∀ m ∈ p.joins, m.R)

theorem sh_mark {f : Nat} {ds : List D} (h : Sh cfg (f + 2) 37 ds) : ∃ a0 a1 a2 a3 a4, ds = [I a0, I a1, I a2, I a3, I a4] ∧ R64 a0 ∧ R64 a1 ∧ R64 a2 ∧ R64 a3 ∧ R64 a4 := by
  rw [Sh, cfg_ty, cty37] at h
  simp only [ty37] at h
  obtain ⟨hl, hf⟩ := h
  obtain ⟨a0, h0, b0⟩ := field_int (k := 0) hf (by simp)
  obtain ⟨a1, h1, b1⟩ := field_int (k := 1) hf (by simp)
  obtain ⟨a2, h2, b2⟩ := field_int (k := 2) hf (by simp)
  obtain ⟨a3, h3, b3⟩ := field_int (k := 3) hf (by simp)
  obtain ⟨a4, h4, b4⟩ := field_int (k := 4) hf (by simp)
  rcases ds with _ | ⟨x0, _ | ⟨x1, _ | ⟨x2, _ | ⟨x3, _ | ⟨x4, _ | ⟨y, r⟩⟩⟩⟩⟩⟩
  all_goals simp at hl
  simp at h0 h1 h2 h3 h4
  refine ⟨a0, a1, a2, a3, a4, by simp [*], b0, b1, b2, b3, b4⟩

theorem sh_join {f : Nat} {ds : List D} (h : Sh cfg (f + 2) 39 ds) : ∃ a0 a1 a2 a3 a4 a5 a6, ds = [I a0, I a1, I a2, I a3, I a4, I a5, I a6] ∧ R64 a0 ∧ R64 a1 ∧ R64 a2 ∧ R64 a3 ∧ R64 a4 ∧ R64 a5 ∧ R64 a6 := by
  rw [Sh, cfg_ty, cty39] at h
  simp only [ty39] at h
  obtain ⟨hl, hf⟩ := h
  obtain ⟨a0, h0, b0⟩ := field_int (k := 0) hf (by simp)
  obtain ⟨a1, h1, b1⟩ := field_int (k := 1) hf (by simp)
  obtain ⟨a2, h2, b2⟩ := field_int (k := 2) hf (by simp)
  obtain ⟨a3, h3, b3⟩ := field_int (k := 3) hf (by simp)
  obtain ⟨a4, h4, b4⟩ := field_int (k := 4) hf (by simp)
  obtain ⟨a5, h5, b5⟩ := field_int (k := 5) hf (by simp)
  obtain ⟨a6, h6, b6⟩ := field_int (k := 6) hf (by simp)
  rcases ds with _ | ⟨x0, _ | ⟨x1, _ | ⟨x2, _ | ⟨x3, _ | ⟨x4, _ | ⟨x5, _ | ⟨x6, _ | ⟨y, r⟩⟩⟩⟩⟩⟩⟩⟩
  all_goals simp at hl
  simp at h0 h1 h2 h3 h4 h5 h6
  refine ⟨a0, a1, a2, a3, a4, a5, a6, by simp [*], b0, b1, b2, b3, b4, b5, b6⟩

theorem sh_ratio {f : Nat} {ds : List D} (h : Sh cfg (f + 2) 34 ds) : ∃ a0 a1, ds = [I a0, I a1] ∧ R64 a0 ∧ R64 a1 := by
  rw [Sh, cfg_ty, cty34] at h
  simp only [ty34] at h
  obtain ⟨hl, hf⟩ := h
  obtain ⟨a0, h0, b0⟩ := field_int (k := 0) hf (by simp)
  obtain ⟨a1, h1, b1⟩ := field_int (k := 1) hf (by simp)
  rcases ds with _ | ⟨x0, _ | ⟨x1, _ | ⟨y, r⟩⟩⟩
  all_goals simp at hl
  simp at h0 h1
  refine ⟨a0, a1, by simp [*], b0, b1⟩

theorem sh_span {f : Nat} {ds : List D} (h : Sh cfg (f + 2) 65 ds) : ∃ a0 a1, ds = [I a0, I a1] ∧ R64 a0 ∧ R64 a1 := by
  rw [Sh, cfg_ty, cty65] at h
  simp only [ty65] at h
  obtain ⟨hl, hf⟩ := h
  obtain ⟨a0, h0, b0⟩ := field_int (k := 0) hf (by simp)
  obtain ⟨a1, h1, b1⟩ := field_int (k := 1) hf (by simp)
  rcases ds with _ | ⟨x0, _ | ⟨x1, _ | ⟨y, r⟩⟩⟩
  all_goals simp at hl
  simp at h0 h1
  refine ⟨a0, a1, by simp [*], b0, b1⟩

theorem sh_reason {f : Nat} {ds : List D} (h : Sh cfg (f + 2) 81 ds) : ∃ a0 a1 a2, ds = [B a0, I a1, B a2] ∧ R64 a1 := by
  rw [Sh, cfg_ty, cty81] at h
  simp only [ty81] at h
  obtain ⟨hl, hf⟩ := h
  obtain ⟨a0, h0⟩ := field_bool (k := 0) hf (by simp)
  obtain ⟨a1, h1, b1⟩ := field_int (k := 1) hf (by simp)
  obtain ⟨a2, h2⟩ := field_bool (k := 2) hf (by simp)
  rcases ds with _ | ⟨x0, _ | ⟨x1, _ | ⟨x2, _ | ⟨y, r⟩⟩⟩⟩
  all_goals simp at hl
  simp at h0 h1 h2
  refine ⟨a0, a1, a2, by simp [*], b1⟩

theorem sh_pair {f : Nat} {ds : List D} (h : Sh cfg (f + 3) 35 ds) : ∃ a0 a1 a2 a3, ds = [I a0, I a1, I a2, I a3] ∧ R64 a0 ∧ R64 a1 ∧ R64 a2 ∧ R64 a3 := by
  rw [Sh, cfg_ty, cty35] at h
  simp only [ty35] at h
  obtain ⟨hl, te, h1, h2⟩ := h
  have : te = ty34 := by exact (Option.some.inj (cty34.symm.trans h1)).symm
  subst this
  obtain ⟨a0, a1, e0, b0, b1⟩ := sh_ratio (h2 0 (by omega))
  obtain ⟨a2, a3, e1, b2, b3⟩ := sh_ratio (h2 1 (by omega))
  rcases ds with _ | ⟨x0, _ | ⟨x1, _ | ⟨x2, _ | ⟨x3, _ | ⟨y, r⟩⟩⟩⟩⟩
  all_goals simp at hl
  simp [ty34] at e0 e1
  exact ⟨a0, a1, a2, a3, by simp [*], b0, b1, b2, b3⟩

theorem sh_marks {f : Nat} {ds : List D} (h : Sh cfg (f + 4) 22 ds) : (∃ (nl : Bool) (l : List Mark), ds = [.sl nl (l.map encM) 5 none] ∧ (nl = true → l = []) ∧ l.length ≤ 9223372036854775807 ∧ (∀ x ∈ l, Mark.R x)) ∨ ds = [.sl true [] 0 none] := by
  rw [Sh, cfg_ty, cty22] at h
  simp only [ty22] at h
  rcases h with h | ⟨els, te, h1, h2, h3, h4⟩
  · exact .inr h
  · have : te = ty37 := by exact (Option.some.inj (cty37.symm.trans h1)).symm
    subst this
    have key : ∀ els : List D, (∀ d ∈ els, Sh cfg (f + 3) 37 d.cells ∧ (ty37.isAgg = true → d = .agg d.cells) ∧ (ty37.isAgg = false → d.cells = [d])) → ∃ l : List Mark, els = l.map encM ∧ ∀ x ∈ l, Mark.R x := by
      intro els
      induction els with
      | nil => intro _; exact ⟨[], rfl, fun x hx => by cases hx⟩
      | cons d els ih =>
        intro hd
        obtain ⟨l, hl, hR⟩ := ih fun d' h' => hd d' (List.mem_cons_of_mem _ h')
        obtain ⟨q1, q2, _⟩ := hd d (by simp)
        have q2 := q2 rfl
        obtain ⟨a0, a1, a2, a3, a4, e, hb⟩ := sh_mark q1
        have hx : d = encM (⟨a0, a1, a2, a3, a4⟩ : Mark) := by rw [q2, e]; rfl
        have hxR : Mark.R (⟨a0, a1, a2, a3, a4⟩ : Mark) := hb
        exact ⟨(⟨a0, a1, a2, a3, a4⟩ : Mark) :: l, by rw [List.map_cons, ← hx, ← hl], fun y hy => by
          rcases List.mem_cons.1 hy with rfl | hy
          · exact hxR
          · exact hR y hy⟩
    obtain ⟨l, rfl, hR⟩ := key els h4
    refine .inl ⟨false, l, h2, by simp, ?_, hR⟩
    simp only [List.length_map, maxLen] at h3
    omega

theorem sh_joins {f : Nat} {ds : List D} (h : Sh cfg (f + 4) 23 ds) : (∃ (nl : Bool) (l : List Join), ds = [.sl nl (l.map encJ) 7 none] ∧ (nl = true → l = []) ∧ l.length ≤ 9223372036854775807 ∧ (∀ x ∈ l, Join.R x)) ∨ ds = [.sl true [] 0 none] := by
  rw [Sh, cfg_ty, cty23] at h
  simp only [ty23] at h
  rcases h with h | ⟨els, te, h1, h2, h3, h4⟩
  · exact .inr h
  · have : te = ty39 := by exact (Option.some.inj (cty39.symm.trans h1)).symm
    subst this
    have key : ∀ els : List D, (∀ d ∈ els, Sh cfg (f + 3) 39 d.cells ∧ (ty39.isAgg = true → d = .agg d.cells) ∧ (ty39.isAgg = false → d.cells = [d])) → ∃ l : List Join, els = l.map encJ ∧ ∀ x ∈ l, Join.R x := by
      intro els
      induction els with
      | nil => intro _; exact ⟨[], rfl, fun x hx => by cases hx⟩
      | cons d els ih =>
        intro hd
        obtain ⟨l, hl, hR⟩ := ih fun d' h' => hd d' (List.mem_cons_of_mem _ h')
        obtain ⟨q1, q2, _⟩ := hd d (by simp)
        have q2 := q2 rfl
        obtain ⟨a0, a1, a2, a3, a4, a5, a6, e, hb⟩ := sh_join q1
        have hx : d = encJ (⟨a0, a1, a2, a3, a4, a5, a6⟩ : Join) := by rw [q2, e]; rfl
        have hxR : Join.R (⟨a0, a1, a2, a3, a4, a5, a6⟩ : Join) := hb
        exact ⟨(⟨a0, a1, a2, a3, a4, a5, a6⟩ : Join) :: l, by rw [List.map_cons, ← hx, ← hl], fun y hy => by
          rcases List.mem_cons.1 hy with rfl | hy
          · exact hxR
          · exact hR y hy⟩
    obtain ⟨l, rfl, hR⟩ := key els h4
    refine .inl ⟨false, l, h2, by simp, ?_, hR⟩
    simp only [List.length_map, maxLen] at h3
    omega

theorem sh_factors {f : Nat} {ds : List D} (h : Sh cfg (f + 4) 27 ds) : (∃ (nl : Bool) (l : List F4), ds = [.sl nl (l.map encF) 4 none] ∧ (nl = true → l = []) ∧ l.length ≤ 9223372036854775807 ∧ (∀ x ∈ l, F4.R x)) ∨ ds = [.sl true [] 0 none] := by
  rw [Sh, cfg_ty, cty27] at h
  simp only [ty27] at h
  rcases h with h | ⟨els, te, h1, h2, h3, h4⟩
  · exact .inr h
  · have : te = ty35 := by exact (Option.some.inj (cty35.symm.trans h1)).symm
    subst this
    have key : ∀ els : List D, (∀ d ∈ els, Sh cfg (f + 3) 35 d.cells ∧ (ty35.isAgg = true → d = .agg d.cells) ∧ (ty35.isAgg = false → d.cells = [d])) → ∃ l : List F4, els = l.map encF ∧ ∀ x ∈ l, F4.R x := by
      intro els
      induction els with
      | nil => intro _; exact ⟨[], rfl, fun x hx => by cases hx⟩
      | cons d els ih =>
        intro hd
        obtain ⟨l, hl, hR⟩ := ih fun d' h' => hd d' (List.mem_cons_of_mem _ h')
        obtain ⟨q1, q2, _⟩ := hd d (by simp)
        have q2 := q2 rfl
        obtain ⟨a0, a1, a2, a3, e, hb⟩ := sh_pair q1
        have hx : d = encF (⟨a0, a1, a2, a3⟩ : F4) := by rw [q2, e]; rfl
        have hxR : F4.R (⟨a0, a1, a2, a3⟩ : F4) := hb
        exact ⟨(⟨a0, a1, a2, a3⟩ : F4) :: l, by rw [List.map_cons, ← hx, ← hl], fun y hy => by
          rcases List.mem_cons.1 hy with rfl | hy
          · exact hxR
          · exact hR y hy⟩
    obtain ⟨l, rfl, hR⟩ := key els h4
    refine .inl ⟨false, l, h2, by simp, ?_, hR⟩
    simp only [List.length_map, maxLen] at h3
    omega

theorem sh_reasons {f : Nat} {ds : List D} (h : Sh cfg (f + 4) 70 ds) : (∃ (nl : Bool) (l : List Reason), ds = [.sl nl (l.map encW) 3 none] ∧ (nl = true → l = []) ∧ l.length ≤ 9223372036854775807 ∧ (∀ x ∈ l, Reason.R x)) ∨ ds = [.sl true [] 0 none] := by
  rw [Sh, cfg_ty, cty70] at h
  simp only [ty70] at h
  rcases h with h | ⟨els, te, h1, h2, h3, h4⟩
  · exact .inr h
  · have : te = ty81 := by exact (Option.some.inj (cty81.symm.trans h1)).symm
    subst this
    have key : ∀ els : List D, (∀ d ∈ els, Sh cfg (f + 3) 81 d.cells ∧ (ty81.isAgg = true → d = .agg d.cells) ∧ (ty81.isAgg = false → d.cells = [d])) → ∃ l : List Reason, els = l.map encW ∧ ∀ x ∈ l, Reason.R x := by
      intro els
      induction els with
      | nil => intro _; exact ⟨[], rfl, fun x hx => by cases hx⟩
      | cons d els ih =>
        intro hd
        obtain ⟨l, hl, hR⟩ := ih fun d' h' => hd d' (List.mem_cons_of_mem _ h')
        obtain ⟨q1, q2, _⟩ := hd d (by simp)
        have q2 := q2 rfl
        obtain ⟨a0, a1, a2, e, hb⟩ := sh_reason q1
        have hx : d = encW (⟨a0, a1, a2⟩ : Reason) := by rw [q2, e]; rfl
        have hxR : Reason.R (⟨a0, a1, a2⟩ : Reason) := hb
        exact ⟨(⟨a0, a1, a2⟩ : Reason) :: l, by rw [List.map_cons, ← hx, ← hl], fun y hy => by
          rcases List.mem_cons.1 hy with rfl | hy
          · exact hxR
          · exact hR y hy⟩
    obtain ⟨l, rfl, hR⟩ := key els h4
    refine .inl ⟨false, l, h2, by simp, ?_, hR⟩
    simp only [List.length_map, maxLen] at h3
    omega

set_option maxRecDepth 100000
/-- A nil slice of whatever size of element is the same value. -/
theorem rep_nil {M : Mem} {m : Loc} {sz : Nat} {v : Value} (h : Rep M m (.sl true [] 0 none) v) : Rep M m (.sl true [] sz none) v := by
  simp only [Rep] at h ⊢
  exact ⟨h.1, by simp⟩
theorem rep_zs {α : Type} {M : Mem} {m : Loc} {nl : Bool} {l : List α} {g : α → D} {k : Nat} {v : Value} (hn : nl = true → l = []) (h : Rep M m (.sl nl (l.map g) k none) v) : Rep M m (.sl nl (l.map g) (zs nl k) none) v := by
  cases nl with
  | false => exact h
  | true => rw [hn rfl] at h ⊢; exact rep_nil (by simp only [Rep] at h ⊢; exact ⟨fun _ => ⟨by simp, (h.1 trivial).2⟩, by simp⟩)
theorem repL_one {M : Mem} {m : Loc} {d : D} {cs : List Value} (h : zC M m [d] cs) : ∃ v, cs = [v] ∧ Rep M m d v := by
  simp only [zC] at h
  obtain ⟨v, r, h1, h2, rfl⟩ := h
  exact ⟨v, h1, h2⟩
section
variable {H : Type} {enc : TypeId × Value → H} {w : World} {base base' : Nat} {sp : Nat → Bool} {held : Bool} {v : Value} {d : DataW H} {p : List MemPlace} {r : Reach}
theorem one_cell {x u : Value} (h : x.cells.toList = [u]) (hp : ∀ cs, x ≠ .agg cs) : x = u := by
  cases x <;> simp [Value.cells] at h <;> first | exact h | exact absurd rfl (hp _)
theorem ok_notAgg {t : TypeId} (hv : Value.okWide Tryd.prog w r base' t v) (hs : ∀ fs, Tryd.prog.underlying t ≠ some (.struct fs)) (ha : ∀ n e, Tryd.prog.underlying t ≠ some (.array n e)) : ∀ cs, v ≠ .agg cs := by
  rintro cs rfl
  unfold Value.okWide at hv
  split at hv
  · rename_i h; exact hs _ h
  · rename_i h; exact ha _ _ h
  · unfold Cell.okWide at hv
    split at hv <;> try (rename_i h1 h2; cases h2; done)
    unfold Cell.ok at hv
    split at hv <;> first | (rename_i h1 h2; cases h2; done) | cases hv
theorem arg_int (h : DataW.Trod enc Tryd.prog w base sp held 3 v d p) (hv : Value.okWide Tryd.prog w r base' 3 v) : ∃ n, v = .int .i64 n ∧ R64 n := by
  obtain ⟨ds, h1, h2⟩ := arg_rep h hv (by kernel_rfl) (by kernel_rfl)
  obtain ⟨n, rfl, hn⟩ := sh_int h2
  obtain ⟨u, e, hu⟩ := repL_one h1
  simp only [Rep] at hu; subst hu
  exact ⟨n, one_cell e (ok_notAgg hv (by rw [Tryd.underlying3]; simp) (by rw [Tryd.underlying3]; simp)), hn⟩
theorem arg_bool (h : DataW.Trod enc Tryd.prog w base sp held 4 v d p) (hv : Value.okWide Tryd.prog w r base' 4 v) : ∃ b, v = .bool b := by
  obtain ⟨ds, h1, h2⟩ := arg_rep h hv (by kernel_rfl) (by kernel_rfl)
  obtain ⟨n, rfl⟩ := sh_bool h2
  obtain ⟨u, e, hu⟩ := repL_one h1
  simp only [Rep] at hu; subst hu
  exact ⟨n, one_cell e (ok_notAgg hv (by rw [Tryd.underlying4]; simp) (by rw [Tryd.underlying4]; simp))⟩
theorem agg_of {t : TypeId} (hv : Value.okWide Tryd.prog w r base' t v) (hs : (∃ fs, Tryd.prog.underlying t = some (.struct fs)) ∨ (∃ n e, Tryd.prog.underlying t = some (.array n e))) : ∃ cs, v = .agg cs := by
  unfold Value.okWide at hv
  rcases hs with ⟨fs, hs⟩ | ⟨n, e, hs⟩ <;> rw [hs] at hv <;> simp only [] at hv <;> obtain ⟨cs, rfl, _⟩ := hv <;> exact ⟨cs, rfl⟩
theorem arg_paper (h : DataW.Trod enc Tryd.prog w base sp held 25 v d p) (hv : Value.okWide Tryd.prog w r base' 25 v) : ∃ q : Paper, Rep (memOf w) noLoc (zN q) v ∧ q.wf ∧ q.R := by
  obtain ⟨ds, h1, h2⟩ := arg_rep h hv (by kernel_rfl) (by kernel_rfl)
  obtain ⟨cs, rfl⟩ := agg_of hv (.inl ⟨_, Tryd.underlying25⟩)
  rw [Sh, cfg_ty, cty25] at h2
  simp only [ty25] at h2
  obtain ⟨hl, hf⟩ := h2
  obtain ⟨n, hn, hR⟩ := field_int (k := 0) hf (by simp)
  obtain ⟨t1, e1, s1⟩ := hf (22, 1) (by simp)
  obtain ⟨t2, e2, s2⟩ := hf (23, 2) (by simp)
  have : t1 = ty22 := by exact (Option.some.inj (cty22.symm.trans e1)).symm
  subst this
  have : t2 = ty23 := by exact (Option.some.inj (cty23.symm.trans e2)).symm
  subst this
  rcases ds with _ | ⟨x0, _ | ⟨x1, _ | ⟨x2, _ | ⟨y, rr⟩⟩⟩⟩
  all_goals simp at hl
  simp at hn
  subst hn
  simp [ty22] at s1
  simp [ty23] at s2
  simp only [Value.cells, zC] at h1
  obtain ⟨v0, r0, hc0, q0, v1, r1, rfl, q1, v2, r2, rfl, q2, rfl⟩ := h1
  have m1 : ∃ (nl : Bool) (l : List Mark), Rep (memOf w) noLoc (.sl nl (l.map encM) (zs nl 5) none) v1 ∧ (nl = true → l = []) ∧ l.length ≤ 9223372036854775807 ∧ ∀ x ∈ l, x.R := by
    rcases sh_marks s1 with ⟨nl, l, e, a, b, c⟩ | e <;> simp at e <;> subst e
    · exact ⟨nl, l, rep_zs a q1, a, b, c⟩
    · exact ⟨true, [], rep_zs (by simp) (rep_nil q1), by simp, by simp, fun x hx => by cases hx⟩
  have m2 : ∃ (nl : Bool) (l : List Join), Rep (memOf w) noLoc (.sl nl (l.map encJ) (zs nl 7) none) v2 ∧ (nl = true → l = []) ∧ l.length ≤ 9223372036854775807 ∧ ∀ x ∈ l, x.R := by
    rcases sh_joins s2 with ⟨nl, l, e, a, b, c⟩ | e <;> simp at e <;> subst e
    · exact ⟨nl, l, rep_zs a q2, a, b, c⟩
    · exact ⟨true, [], rep_zs (by simp) (rep_nil q2), by simp, by simp, fun x hx => by cases hx⟩
  obtain ⟨nm, lm, a1, a2, a3, a4⟩ := m1
  obtain ⟨nj, lj, b1, b2, b3, b4⟩ := m2
  refine ⟨⟨n, nm, lm, nj, lj⟩, ?_, ⟨a2, b2, a3, b3⟩, hR, a4, b4⟩
  simp only [Rep, zN] at *
  exact ⟨cs, rfl, by rw [hc0]; simp only [zC]; exact ⟨_, _, rfl, by simpa [Rep] using q0, _, _, rfl, by simpa only [Rep] using a1, _, _, rfl, by simpa only [Rep] using b1, rfl⟩⟩
theorem arg_factors (h : DataW.Trod enc Tryd.prog w base sp held 27 v d p) (hv : Value.okWide Tryd.prog w r base' 27 v) : ∃ (nl : Bool) (l : List F4), Rep (memOf w) noLoc (.sl nl (l.map encF) 4 none) v ∧ (nl = true → l = []) ∧ l.length ≤ 9223372036854775807 ∧ ∀ x ∈ l, x.R := by
  obtain ⟨ds, h1, h2⟩ := arg_rep h hv (by kernel_rfl) (by kernel_rfl)
  have hna := ok_notAgg hv (by rw [Tryd.underlying27]; simp) (by rw [Tryd.underlying27]; simp)
  rcases sh_factors h2 with ⟨nl, l, e, a, b, c⟩ | e
  · subst e
    obtain ⟨u, e, hu⟩ := repL_one h1
    rw [one_cell e hna]; exact ⟨nl, l, hu, a, b, c⟩
  · subst e
    obtain ⟨u, e, hu⟩ := repL_one h1
    rw [one_cell e hna]; exact ⟨true, [], rep_nil hu, by simp, by simp, fun x hx => by cases hx⟩
theorem arg_reasons (h : DataW.Trod enc Tryd.prog w base sp held 70 v d p) (hv : Value.okWide Tryd.prog w r base' 70 v) : ∃ (nl : Bool) (l : List Reason), Rep (memOf w) noLoc (.sl nl (l.map encW) 3 none) v ∧ (nl = true → l = []) ∧ l.length ≤ 9223372036854775807 ∧ ∀ x ∈ l, x.R := by
  obtain ⟨ds, h1, h2⟩ := arg_rep h hv (by kernel_rfl) (by kernel_rfl)
  have hna := ok_notAgg hv (by rw [Tryd.underlying70]; simp) (by rw [Tryd.underlying70]; simp)
  rcases sh_reasons h2 with ⟨nl, l, e, a, b, c⟩ | e
  · subst e
    obtain ⟨u, e, hu⟩ := repL_one h1
    rw [one_cell e hna]; exact ⟨nl, l, hu, a, b, c⟩
  · subst e
    obtain ⟨u, e, hu⟩ := repL_one h1
    rw [one_cell e hna]; exact ⟨true, [], rep_nil hu, by simp, by simp, fun x hx => by cases hx⟩
theorem arg_ratio (h : DataW.Trod enc Tryd.prog w base sp held 34 v d p) (hv : Value.okWide Tryd.prog w r base' 34 v) : ∃ q : Ratio, Rep (memOf w) noLoc (encR q) v ∧ R64 q.n ∧ R64 q.d := by
  obtain ⟨ds, h1, h2⟩ := arg_rep h hv (by kernel_rfl) (by kernel_rfl)
  obtain ⟨cs, rfl⟩ := agg_of hv (.inl ⟨_, Tryd.underlying34⟩)
  obtain ⟨a, b, rfl, ha, hb⟩ := sh_ratio h2
  exact ⟨⟨a, b⟩, by simp only [Rep, encR]; exact ⟨cs, rfl, by simpa [Value.cells] using h1⟩, ha, hb⟩
theorem arg_span (h : DataW.Trod enc Tryd.prog w base sp held 65 v d p) (hv : Value.okWide Tryd.prog w r base' 65 v) : ∃ q : Span, Rep (memOf w) noLoc (encS q) v ∧ R64 q.lo ∧ R64 q.hi := by
  obtain ⟨ds, h1, h2⟩ := arg_rep h hv (by kernel_rfl) (by kernel_rfl)
  obtain ⟨cs, rfl⟩ := agg_of hv (.inl ⟨_, Tryd.underlying65⟩)
  obtain ⟨a, b, rfl, ha, hb⟩ := sh_span h2
  exact ⟨⟨a, b⟩, by simp only [Rep, encS]; exact ⟨cs, rfl, by simpa [Value.cells] using h1⟩, ha, hb⟩
theorem arg_reason (h : DataW.Trod enc Tryd.prog w base sp held 81 v d p) (hv : Value.okWide Tryd.prog w r base' 81 v) : ∃ q : Reason, Rep (memOf w) noLoc (encW q) v ∧ q.R := by
  obtain ⟨ds, h1, h2⟩ := arg_rep h hv (by kernel_rfl) (by kernel_rfl)
  obtain ⟨cs, rfl⟩ := agg_of hv (.inl ⟨_, Tryd.underlying81⟩)
  obtain ⟨a, b, c, rfl, hb⟩ := sh_reason h2
  exact ⟨⟨a, b, c⟩, by simp only [Rep, encW]; exact ⟨cs, rfl, by simpa [Value.cells] using h1⟩, hb⟩
theorem arg_mark (h : DataW.Trod enc Tryd.prog w base sp held 37 v d p) (hv : Value.okWide Tryd.prog w r base' 37 v) : ∃ q : Mark, Rep (memOf w) noLoc (encM q) v ∧ q.R := by
  obtain ⟨ds, h1, h2⟩ := arg_rep h hv (by kernel_rfl) (by kernel_rfl)
  obtain ⟨cs, rfl⟩ := agg_of hv (.inl ⟨_, Tryd.underlying37⟩)
  obtain ⟨a, b, c, d, e, rfl, hb⟩ := sh_mark h2
  exact ⟨⟨a, b, c, d, e⟩, by simp only [Rep, encM]; exact ⟨cs, rfl, by simpa [Value.cells] using h1⟩, hb⟩
theorem arg_join (h : DataW.Trod enc Tryd.prog w base sp held 39 v d p) (hv : Value.okWide Tryd.prog w r base' 39 v) : ∃ q : Join, Rep (memOf w) noLoc (encJ q) v ∧ q.R := by
  obtain ⟨ds, h1, h2⟩ := arg_rep h hv (by kernel_rfl) (by kernel_rfl)
  obtain ⟨cs, rfl⟩ := agg_of hv (.inl ⟨_, Tryd.underlying39⟩)
  obtain ⟨a, b, c, d, e, f, g, rfl, hb⟩ := sh_join h2
  exact ⟨⟨a, b, c, d, e, f, g⟩, by simp only [Rep, encJ]; exact ⟨cs, rfl, by simpa [Value.cells] using h1⟩, hb⟩
end
end Go.VS
