/- Nothing of a statement is proved in this text alone: it is part 7 of the proof's own tools, an evaluator of the code over deep values, its soundness, and what it makes of this seat's functions. Conditions: none beyond the statement's own. -/
import Derived.Test.YtnifoeahomkdlaaVsOMb6
import Derived.Test.YtnifoeahomkdlaaRows
import Derived.WalkKit
import Derived.ProofKit
import Derived.Deep.DeepHandedRow
import Derived.Lib.LaidTab
set_option linter.unusedSimpArgs false
set_option linter.unusedVariables false
/-
  The seat's program: its tables are right; what its arguments stand for. (Printed by go/oq.py, a program of this claim's own; nothing of it is trusted.)
-/
namespace Go.VS
open Go Go.Proofs Go.RowKit Go.ChangeShapes Go.WideShapes
theorem cfgOK : CfgOK cfg where
  ty := fun _ _ h => tyTab_ok.find h
  fn := fun _ _ h => fnTab_ok.find h
  enter := fun _ _ h => enTab_ok.find h
  mixed := by kernel_rfl
  eqok := fun t h => by
    have h1 : (eqTab.find t).isSome = true := h
    cases hf : eqTab.find t with
    | none => rw [hf] at h1; cases h1
    | some u =>
      have := eqTab_ok.find hf
      unfold eqB at this
      simp only [Bool.and_eq_true, Bool.not_eq_true'] at this
      refine ⟨this.1.1, this.1.2, fun fs hfs f hm => ?_⟩
      have h2 := this.2
      have hfs' : Try.prog.underlying t = some (.struct fs) := hfs
      rw [hfs'] at h2
      simp only [List.all_eq_true, bne_iff_ne] at h2
      exact h2 f hm
theorem extOK : ExtOK cfg where
  pure := fun K g args d h => by rw [cfg_ext] at h; cases h
  inl := fun K g args objs nxt d objs' nxt' h => by rw [cfg_xinl] at h; cases h
theorem globOK {M : Mem} : zW cfg M := fun g d h => by cases h
set_option maxRecDepth 100000
theorem laid_out : laidOutB Try.prog = true := by kernel_rfl
theorem maps_rowed : mapsRowed Try.prog = true := by kernel_rfl
theorem sl_full : ∀ t e, t < Try.prog.types.size → Try.prog.underlying t = some (.slice e) → 0 < Try.prog.cellsOf e := slices_full_of Try.prog (by kernel_rfl)
theorem i64_min : IntKind.i64.min = -9223372036854775808 := by rfl
theorem i64_max : IntKind.i64.max = 9223372036854775807 := by rfl
def R64 (n : Int) : Prop := -9223372036854775808 ≤ n ∧ n ≤ 9223372036854775807
section
variable {H : Type} {enc : TypeId × Value → H} {w : World} {base base' : Nat} {sp : Nat → Bool} {held : Bool} {t : TypeId} {v : Value} {d : DataW H} {p : List MemPlace} {r : Reach}
theorem arg_rep (h : DataW.Trod enc Try.prog w base sp held t v d p) (hv : Value.okWide Try.prog w r base' t v) (ht : topT cfg 8 t = true) (hr : rowedT cfg 8 t = true) :
    ∃ ds, zJ (memOf w) noLoc ds v.cells.toList ∧ Sh cfg 8 t ds := by
  obtain ⟨n, hn⟩ := h
  exact trod_rep (C := cfg) (fun t ty h => tyTab_ok.find h) 8 n t _ _ hn ht hr (.inl (plain_arg hv))
theorem repL_one {M : Mem} {m : Loc} {d : D} {cs : List Value} (h : zJ M m [d] cs) : ∃ v, cs = [v] ∧ Rep M m d v := by
  simp only [zJ] at h
  obtain ⟨v, r, h1, h2, rfl⟩ := h
  exact ⟨v, h1, h2⟩
theorem one_cell {x u : Value} (h : x.cells.toList = [u]) (hp : ∀ cs, x ≠ .agg cs) : x = u := by
  cases x <;> simp [Value.cells] at h <;> first | exact h | exact absurd rfl (hp _)
theorem ok_notAgg (hv : Value.okWide Try.prog w r base' t v) (hs : ∀ fs, Try.prog.underlying t ≠ some (.struct fs)) (ha : ∀ n e, Try.prog.underlying t ≠ some (.array n e)) : ∀ cs, v ≠ .agg cs := by
  rintro cs rfl
  unfold Value.okWide at hv
  split at hv
  · rename_i h; exact hs _ h
  · rename_i h; exact ha _ _ h
  · unfold Cell.okWide at hv
    split at hv <;> try (rename_i h1 h2; cases h2; done)
    unfold Cell.ok at hv
    split at hv <;> first | (rename_i h1 h2; cases h2; done) | cases hv
theorem agg_of (hv : Value.okWide Try.prog w r base' t v) (hs : (∃ fs, Try.prog.underlying t = some (.struct fs)) ∨ (∃ n e, Try.prog.underlying t = some (.array n e))) : ∃ cs, v = .agg cs := by
  unfold Value.okWide at hv
  rcases hs with ⟨fs, hs⟩ | ⟨n, e, hs⟩ <;> rw [hs] at hv <;> simp only [] at hv <;> obtain ⟨cs, rfl, _⟩ := hv <;> exact ⟨cs, rfl⟩
end
theorem sh3 {f : Nat} {ds : List D} (h : Sh cfg (f + 1) 3 ds) : ∃ x : Int, ds = [I x] ∧ R64 x := by
  rw [Sh, cfg_ty, cty3] at h
  simp only [ty3] at h
  obtain ⟨n, h1, h2, h3⟩ := h
  rw [i64_min] at h2
  rw [i64_max] at h3
  exact ⟨n, h1, h2, h3⟩
theorem sh24 {f : Nat} {ds : List D} (h : Sh cfg (f + 2) 24 ds) : ∃ x : S_Span, ds = [I x.lo, I x.hi] ∧ True := by
  rw [Sh, cfg_ty, cty24] at h
  simp only [ty24] at h
  obtain ⟨hl, hf⟩ := h
  obtain ⟨t0, q0, z0⟩ := hf (3, 0) (by simp)
  obtain rfl : t0 = ty3 := (Option.some.inj (cty3.symm.trans q0)).symm
  obtain ⟨x0, e0, r0⟩ := sh3 (f := f + 0) z0
  obtain ⟨t1, q1, z1⟩ := hf (3, 1) (by simp)
  obtain rfl : t1 = ty3 := (Option.some.inj (cty3.symm.trans q1)).symm
  obtain ⟨x1, e1, r1⟩ := sh3 (f := f + 0) z1
  rcases ds with _ | ⟨c0, _ | ⟨c1, _ | ⟨y, r⟩⟩⟩
  all_goals simp at hl
  simp [ty3] at e0
  simp [ty3] at e1
  exact ⟨⟨x0, x1⟩, by simp [*], trivial⟩
theorem sh70 {f : Nat} {ds : List D} (h : Sh cfg (f + 3) 70 ds) : ∃ x : S_Item, ds = [I x.now.lo, I x.now.hi, I x.cost, I x.error] ∧ True := by
  rw [Sh, cfg_ty, cty70] at h
  simp only [ty70] at h
  obtain ⟨hl, hf⟩ := h
  obtain ⟨t0, q0, z0⟩ := hf (24, 0) (by simp)
  obtain rfl : t0 = ty24 := (Option.some.inj (cty24.symm.trans q0)).symm
  obtain ⟨x0, e0, r0⟩ := sh24 (f := f + 0) z0
  obtain ⟨t1, q1, z1⟩ := hf (3, 2) (by simp)
  obtain rfl : t1 = ty3 := (Option.some.inj (cty3.symm.trans q1)).symm
  obtain ⟨x1, e1, r1⟩ := sh3 (f := f + 1) z1
  obtain ⟨t2, q2, z2⟩ := hf (3, 3) (by simp)
  obtain rfl : t2 = ty3 := (Option.some.inj (cty3.symm.trans q2)).symm
  obtain ⟨x2, e2, r2⟩ := sh3 (f := f + 1) z2
  rcases ds with _ | ⟨c0, _ | ⟨c1, _ | ⟨c2, _ | ⟨c3, _ | ⟨y, r⟩⟩⟩⟩⟩
  all_goals simp at hl
  simp [ty24] at e0
  simp [ty3] at e1
  simp [ty3] at e2
  exact ⟨⟨x0, x1, x2⟩, by simp [*], trivial⟩
theorem sh22 {f : Nat} {ds : List D} (h : Sh cfg (f + 4) 22 ds) : ∃ x : GS S_Item, ds = [.sl x.nl (x.l.map S_Item.D) (zsl x.nl 4) none] ∧ x.l.length ≤ 9223372036854775807 := by
  rw [Sh, cfg_ty, cty22] at h
  simp only [ty22] at h
  rcases h with h | ⟨els, te, h1, h2, h3, h4⟩
  · exact ⟨GS.nil, h, by simp [GS.nil]⟩
  · obtain rfl : te = ty70 := (Option.some.inj (cty70.symm.trans h1)).symm
    have key : ∀ els : List D, (∀ d ∈ els, Sh cfg (f + 3) 70 d.cells ∧ (ty70.isAgg = true → d = .agg d.cells) ∧ (ty70.isAgg = false → d.cells = [d])) → ∃ l : List S_Item, els = l.map S_Item.D := by
      intro els
      induction els with
      | nil => intro _; exact ⟨[], rfl⟩
      | cons d els ih =>
        intro hd
        obtain ⟨l, hl⟩ := ih fun d' h' => hd d' (List.mem_cons_of_mem _ h')
        obtain ⟨q1, q2, q3⟩ := hd d (by simp)
        obtain ⟨a, e, _⟩ := sh70 (f := f + 0) q1
        have hx : d = S_Item.D a := by rw [q2 rfl, e]; rfl
        exact ⟨a :: l, by rw [List.map_cons, ← hx, ← hl]⟩
    obtain ⟨l, rfl⟩ := key els h4
    refine ⟨GS.some l, h2, ?_⟩
    simp only [List.length_map, maxLen] at h3
    simp only [GS.some]
    omega
theorem sh26 {f : Nat} {ds : List D} (h : Sh cfg (f + 5) 26 ds) : ∃ x : S_Estate, ds = [.sl x.items.nl (x.items.l.map S_Item.D) (zsl x.items.nl 4) none, I x.whole.lo, I x.whole.hi] ∧ x.items.l.length ≤ 9223372036854775807 := by
  rw [Sh, cfg_ty, cty26] at h
  simp only [ty26] at h
  obtain ⟨hl, hf⟩ := h
  obtain ⟨t0, q0, z0⟩ := hf (22, 0) (by simp)
  obtain rfl : t0 = ty22 := (Option.some.inj (cty22.symm.trans q0)).symm
  obtain ⟨x0, e0, r0⟩ := sh22 (f := f + 0) z0
  obtain ⟨t1, q1, z1⟩ := hf (24, 1) (by simp)
  obtain rfl : t1 = ty24 := (Option.some.inj (cty24.symm.trans q1)).symm
  obtain ⟨x1, e1, r1⟩ := sh24 (f := f + 2) z1
  rcases ds with _ | ⟨c0, _ | ⟨c1, _ | ⟨c2, _ | ⟨y, r⟩⟩⟩⟩
  all_goals simp at hl
  simp [ty22] at e0
  simp [ty24] at e1
  exact ⟨⟨x0, x1⟩, by simp [*], r0⟩
theorem sh37 {f : Nat} {ds : List D} (h : Sh cfg (f + 2) 37 ds) : ∃ x : GS Int, ds = [.sl x.nl (x.l.map I) (zsl x.nl 1) none] ∧ x.l.length ≤ 9223372036854775807 := by
  rw [Sh, cfg_ty, cty37] at h
  simp only [ty37] at h
  rcases h with h | ⟨els, te, h1, h2, h3, h4⟩
  · exact ⟨GS.nil, h, by simp [GS.nil]⟩
  · obtain rfl : te = ty3 := (Option.some.inj (cty3.symm.trans h1)).symm
    have key : ∀ els : List D, (∀ d ∈ els, Sh cfg (f + 1) 3 d.cells ∧ (ty3.isAgg = true → d = .agg d.cells) ∧ (ty3.isAgg = false → d.cells = [d])) → ∃ l : List Int, els = l.map I := by
      intro els
      induction els with
      | nil => intro _; exact ⟨[], rfl⟩
      | cons d els ih =>
        intro hd
        obtain ⟨l, hl⟩ := ih fun d' h' => hd d' (List.mem_cons_of_mem _ h')
        obtain ⟨q1, q2, q3⟩ := hd d (by simp)
        obtain ⟨a, e, _⟩ := sh3 (f := f + 0) q1
        have hx : d = I a := by have := (q3 rfl).symm.trans e; simpa using this
        exact ⟨a :: l, by rw [List.map_cons, ← hx, ← hl]⟩
    obtain ⟨l, rfl⟩ := key els h4
    refine ⟨GS.some l, h2, ?_⟩
    simp only [List.length_map, maxLen] at h3
    simp only [GS.some]
    omega
theorem arg3 {H : Type} {enc : TypeId × Value → H} {w : World} {base base' : Nat} {sp : Nat → Bool} {held : Bool} {v : Value} {d : DataW H} {p : List MemPlace} {r : Reach} (h : DataW.Trod enc Try.prog w base sp held 3 v d p) (hv : Value.okWide Try.prog w r base' 3 v) : ∃ x : Int, Rep (memOf w) noLoc (I x) v ∧ R64 x := by
  obtain ⟨ds, h1, h2⟩ := arg_rep h hv (by kernel_rfl) (by kernel_rfl)
  obtain ⟨x, rfl, hx⟩ := sh3 (f := 7) h2
  obtain ⟨u, e, hu⟩ := repL_one h1
  exact ⟨x, by rw [one_cell e (ok_notAgg hv (by rw [Try.underlying3]; simp) (by rw [Try.underlying3]; simp))]; exact hu, hx⟩
theorem arg24 {H : Type} {enc : TypeId × Value → H} {w : World} {base base' : Nat} {sp : Nat → Bool} {held : Bool} {v : Value} {d : DataW H} {p : List MemPlace} {r : Reach} (h : DataW.Trod enc Try.prog w base sp held 24 v d p) (hv : Value.okWide Try.prog w r base' 24 v) : ∃ x : S_Span, Rep (memOf w) noLoc (S_Span.D x) v ∧ True := by
  obtain ⟨ds, h1, h2⟩ := arg_rep h hv (by kernel_rfl) (by kernel_rfl)
  obtain ⟨x, rfl, hx⟩ := sh24 (f := 6) h2
  obtain ⟨cs, rfl⟩ := agg_of hv (.inl ⟨_, Try.underlying24⟩)
  refine ⟨x, ?_, hx⟩
  simp only [Rep, S_Span.D]
  exact ⟨cs, rfl, by simpa [Value.cells] using h1⟩
theorem arg26 {H : Type} {enc : TypeId × Value → H} {w : World} {base base' : Nat} {sp : Nat → Bool} {held : Bool} {v : Value} {d : DataW H} {p : List MemPlace} {r : Reach} (h : DataW.Trod enc Try.prog w base sp held 26 v d p) (hv : Value.okWide Try.prog w r base' 26 v) : ∃ x : S_Estate, Rep (memOf w) noLoc (S_Estate.D x) v ∧ x.items.l.length ≤ 9223372036854775807 := by
  obtain ⟨ds, h1, h2⟩ := arg_rep h hv (by kernel_rfl) (by kernel_rfl)
  obtain ⟨x, rfl, hx⟩ := sh26 (f := 3) h2
  obtain ⟨cs, rfl⟩ := agg_of hv (.inl ⟨_, Try.underlying26⟩)
  refine ⟨x, ?_, hx⟩
  simp only [Rep, S_Estate.D]
  exact ⟨cs, rfl, by simpa [Value.cells] using h1⟩
theorem arg37 {H : Type} {enc : TypeId × Value → H} {w : World} {base base' : Nat} {sp : Nat → Bool} {held : Bool} {v : Value} {d : DataW H} {p : List MemPlace} {r : Reach} (h : DataW.Trod enc Try.prog w base sp held 37 v d p) (hv : Value.okWide Try.prog w r base' 37 v) : ∃ x : GS Int, Rep (memOf w) noLoc (GS.D I 1 x) v ∧ x.l.length ≤ 9223372036854775807 := by
  obtain ⟨ds, h1, h2⟩ := arg_rep h hv (by kernel_rfl) (by kernel_rfl)
  obtain ⟨x, rfl, hx⟩ := sh37 (f := 6) h2
  obtain ⟨u, e, hu⟩ := repL_one h1
  exact ⟨x, by rw [one_cell e (ok_notAgg hv (by rw [Try.underlying37]; simp) (by rw [Try.underlying37]; simp))]; exact hu, hx⟩
end Go.VS

/-
  Orders: OrdersMore answers true. (A text of this claim's own; nothing of it is trusted.)
-/
namespace Go.VS
open Go Go.Proofs
set_option maxHeartbeats 0
theorem more_true (e : S_Estate) (items : GS Int) (more low high item less : Int) (whole : S_Span) : l_OrdersMore e items more low high item less whole = true := by
  unfold l_OrdersMore l_OrdersMore_c16 l_OrdersMore_c16a l_OrdersMore_c16b l_OrdersMore_c16c l_OrdersMore_c16d l_OrdersMore_c16e
  simp only [Bool.cond_self]
theorem law_more (e : S_Estate) (items : GS Int) (more low high item less : Int) (whole : S_Span) : e.items.l.length ≤ 9223372036854775807 → items.l.length ≤ 9223372036854775807 → R64 more → R64 low → R64 high → R64 item → R64 less → True → (lim cfg).pure 7 [S_Estate.D e, GS.D I 1 items, I more, I low, I high, I item, I less, S_Span.D whole] = some (B true) := fun _ h _ _ _ _ _ _ => by
  rw [T_l_OrdersMore e items more low high item less whole h, more_true]
end Go.VS

