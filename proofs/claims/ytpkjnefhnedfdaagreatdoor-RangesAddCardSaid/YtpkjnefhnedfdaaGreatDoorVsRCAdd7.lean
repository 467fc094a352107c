/- Nothing of a statement is proved in this text alone: it is part 7 of the proof's own tools, an evaluator of the code over deep values, its soundness, and what it makes of this seat's functions. Conditions: none beyond the statement's own. -/
import Derived.Test.YtpkjnefhnedfdaaGreatDoorVsRCAdd6
import Derived.Test.YtpkjnefhnedfdaaGreatDoorRows
import Derived.Test.YtpkjnefhnedfdaaGreatDoorTie
import Derived.WalkKit
import Derived.ProofKit
import Derived.Deep.DeepHandedRow
import Derived.Lib.LaidTab
set_option linter.unusedSimpArgs false
set_option linter.unusedVariables false
/-
  The seat's program: its tables are right; what its arguments stand for. (Printed by go/oq.py, a program of this claim's own; nothing of it is trusted.)
-/
namespace Go.VS
open Go Go.Proofs Go.RowKit Go.ChangeShapes Go.WideShapes
set_option maxRecDepth 100000
theorem laid_out : laidOutB Tryz.prog = true := by kernel_rfl
theorem maps_rowed : mapsRowed Tryz.prog = true := by kernel_rfl
theorem sl_full : ∀ t e, t < Tryz.prog.types.size → Tryz.prog.underlying t = some (.slice e) → 0 < Tryz.prog.cellsOf e := slices_full_of Tryz.prog (by kernel_rfl)
theorem i64_min : IntKind.i64.min = -9223372036854775808 := by rfl
theorem i64_max : IntKind.i64.max = 9223372036854775807 := by rfl
def R64 (n : Int) : Prop := -9223372036854775808 ≤ n ∧ n ≤ 9223372036854775807
section
variable {H : Type} {enc : TypeId × Value → H} {w : World} {base base' : Nat} {sp : Nat → Bool} {held : Bool} {t : TypeId} {v : Value} {d : DataW H} {p : List MemPlace} {r : Reach}
theorem arg_rep (h : DataW.Trod enc Tryz.prog w base sp held t v d p) (hv : Value.okWide Tryz.prog w r base' t v) (ht : topT cfg 8 t = true) (hr : rowedT cfg 8 t = true) :
    ∃ ds, zI (memOf w) noLoc ds v.cells.toList ∧ Sh cfg 8 t ds := by
  obtain ⟨n, hn⟩ := h
  exact trod_rep (C := cfg) (fun t ty h => tyTab_ok.find h) 8 n t _ _ hn ht hr (.inl (plain_arg hv))
theorem repL_one {M : Mem} {m : Loc} {d : D} {cs : List Value} (h : zI M m [d] cs) : ∃ v, cs = [v] ∧ Rep M m d v := by
  simp only [zI] at h
  obtain ⟨v, r, h1, h2, rfl⟩ := h
  exact ⟨v, h1, h2⟩
theorem one_cell {x u : Value} (h : x.cells.toList = [u]) (hp : ∀ cs, x ≠ .agg cs) : x = u := by
  cases x <;> simp [Value.cells] at h <;> first | exact h | exact absurd rfl (hp _)
theorem ok_notAgg (hv : Value.okWide Tryz.prog w r base' t v) (hs : ∀ fs, Tryz.prog.underlying t ≠ some (.struct fs)) (ha : ∀ n e, Tryz.prog.underlying t ≠ some (.array n e)) : ∀ cs, v ≠ .agg cs := by
  rintro cs rfl
  unfold Value.okWide at hv
  split at hv
  · rename_i h; exact hs _ h
  · rename_i h; exact ha _ _ h
  · unfold Cell.okWide at hv
    split at hv <;> try (rename_i h1 h2; cases h2; done)
    unfold Cell.ok at hv
    split at hv <;> first | (rename_i h1 h2; cases h2; done) | cases hv
end
theorem sh3 {f : Nat} {ds : List D} (h : Sh cfg (f + 1) 3 ds) : ∃ x : Int, ds = [I x] ∧ R64 x := by
  rw [Sh, cfg_ty, cty3] at h
  simp only [ty3] at h
  obtain ⟨n, h1, h2, h3⟩ := h
  rw [i64_min] at h2
  rw [i64_max] at h3
  exact ⟨n, h1, h2, h3⟩
theorem sh25 {f : Nat} {ds : List D} (h : Sh cfg (f + 2) 25 ds) : ∃ x : S_Span, ds = [I x.lo, I x.hi] ∧ True := by
  rw [Sh, cfg_ty, cty25] at h
  simp only [ty25] at h
  obtain ⟨hl, hf⟩ := h
  obtain ⟨t0, q0, z0⟩ := hf (3, 0) (by simp)
  obtain rfl : t0 = ty3 := (Option.some.inj (cty3.symm.trans q0)).symm
  obtain ⟨x0, e0, r0⟩ := sh3 (f := f + 0) z0
  obtain ⟨t1, q1, z1⟩ := hf (3, 1) (by simp)
  obtain rfl : t1 = ty3 := (Option.some.inj (cty3.symm.trans q1)).symm
  obtain ⟨x1, e1, r1⟩ := sh3 (f := f + 0) z1
  rcases ds with _ | ⟨c0, _ | ⟨c1, _ | ⟨y, r⟩⟩⟩
  all_goals simp at hl
  simp [ty3] at e0
  simp [ty3] at e1
  exact ⟨⟨x0, x1⟩, by simp [*], trivial⟩
theorem sh23 {f : Nat} {ds : List D} (h : Sh cfg (f + 3) 23 ds) : ∃ x : GS S_Span, ds = [.sl x.nl (x.l.map S_Span.D) (zsl x.nl 2) none] ∧ x.l.length ≤ 9223372036854775807 := by
  rw [Sh, cfg_ty, cty23] at h
  simp only [ty23] at h
  rcases h with h | ⟨els, te, h1, h2, h3, h4⟩
  · exact ⟨GS.nil, h, by simp [GS.nil]⟩
  · obtain rfl : te = ty25 := (Option.some.inj (cty25.symm.trans h1)).symm
    have key : ∀ els : List D, (∀ d ∈ els, Sh cfg (f + 2) 25 d.cells ∧ (ty25.isAgg = true → d = .agg d.cells) ∧ (ty25.isAgg = false → d.cells = [d])) → ∃ l : List S_Span, els = l.map S_Span.D := by
      intro els
      induction els with
      | nil => intro _; exact ⟨[], rfl⟩
      | cons d els ih =>
        intro hd
        obtain ⟨l, hl⟩ := ih fun d' h' => hd d' (List.mem_cons_of_mem _ h')
        obtain ⟨q1, q2, q3⟩ := hd d (by simp)
        obtain ⟨a, e, _⟩ := sh25 (f := f + 0) q1
        have hx : d = S_Span.D a := by rw [q2 rfl, e]; rfl
        exact ⟨a :: l, by rw [List.map_cons, ← hx, ← hl]⟩
    obtain ⟨l, rfl⟩ := key els h4
    refine ⟨GS.some l, h2, ?_⟩
    simp only [List.length_map, maxLen] at h3
    simp only [GS.some]
    omega
theorem arg23 {H : Type} {enc : TypeId × Value → H} {w : World} {base base' : Nat} {sp : Nat → Bool} {held : Bool} {v : Value} {d : DataW H} {p : List MemPlace} {r : Reach} (h : DataW.Trod enc Tryz.prog w base sp held 23 v d p) (hv : Value.okWide Tryz.prog w r base' 23 v) : ∃ x : GS S_Span, Rep (memOf w) noLoc (GS.D S_Span.D 2 x) v ∧ x.l.length ≤ 9223372036854775807 := by
  obtain ⟨ds, h1, h2⟩ := arg_rep h hv (by kernel_rfl) (by kernel_rfl)
  obtain ⟨x, rfl, hx⟩ := sh23 (f := 5) h2
  obtain ⟨u, e, hu⟩ := repL_one h1
  exact ⟨x, by rw [one_cell e (ok_notAgg hv (by rw [Tryz.underlying23]; simp) (by rw [Tryz.underlying23]; simp))]; exact hu, hx⟩
theorem arg3 {H : Type} {enc : TypeId × Value → H} {w : World} {base base' : Nat} {sp : Nat → Bool} {held : Bool} {v : Value} {d : DataW H} {p : List MemPlace} {r : Reach} (h : DataW.Trod enc Tryz.prog w base sp held 3 v d p) (hv : Value.okWide Tryz.prog w r base' 3 v) : ∃ x : Int, Rep (memOf w) noLoc (I x) v ∧ R64 x := by
  obtain ⟨ds, h1, h2⟩ := arg_rep h hv (by kernel_rfl) (by kernel_rfl)
  obtain ⟨x, rfl, hx⟩ := sh3 (f := 7) h2
  obtain ⟨u, e, hu⟩ := repL_one h1
  exact ⟨x, by rw [one_cell e (ok_notAgg hv (by rw [Tryz.underlying3]; simp) (by rw [Tryz.underlying3]; simp))]; exact hu, hx⟩
open Go.Lib in
/-- The table of powers, as the rows list it. -/
theorem tab_ok {W : World} (h : laidMetH Tryz.prog [("math/bits.deBruijn32tab", YtpkjnefhnedfdaaGreatDoor.Rows.laid_math_bits_deBruijn32tab), ("math/bits.deBruijn64tab", YtpkjnefhnedfdaaGreatDoor.Rows.laid_math_bits_deBruijn64tab), ("internal/strconv.uint64pow10", YtpkjnefhnedfdaaGreatDoor.Rows.laid_internal_strconv_uint64pow10), ("unicode/utf8.acceptRanges", YtpkjnefhnedfdaaGreatDoor.Rows.laid_unicode_utf8_acceptRanges), ("strconv.ErrRange", YtpkjnefhnedfdaaGreatDoor.Rows.laid_strconv_ErrRange), ("strconv.ErrSyntax", YtpkjnefhnedfdaaGreatDoor.Rows.laid_strconv_ErrSyntax), ("unicode/utf8.first", YtpkjnefhnedfdaaGreatDoor.Rows.laid_unicode_utf8_first)] W) : TabOK cfg W := by
  obtain ⟨ps, h, _⟩ : laidMet Tryz.prog [("math/bits.deBruijn32tab", YtpkjnefhnedfdaaGreatDoor.Rows.laid_math_bits_deBruijn32tab), ("math/bits.deBruijn64tab", YtpkjnefhnedfdaaGreatDoor.Rows.laid_math_bits_deBruijn64tab), ("internal/strconv.uint64pow10", YtpkjnefhnedfdaaGreatDoor.Rows.laid_internal_strconv_uint64pow10), ("unicode/utf8.acceptRanges", YtpkjnefhnedfdaaGreatDoor.Rows.laid_unicode_utf8_acceptRanges), ("strconv.ErrRange", YtpkjnefhnedfdaaGreatDoor.Rows.laid_strconv_ErrRange), ("strconv.ErrSyntax", YtpkjnefhnedfdaaGreatDoor.Rows.laid_strconv_ErrSyntax), ("unicode/utf8.first", YtpkjnefhnedfdaaGreatDoor.Rows.laid_unicode_utf8_first)] W := h
  obtain ⟨_, _, _, _, _, q, _, _, _, _, h, _⟩ := h
  obtain ⟨_, _, _, _, _, q, _, _, _, _, h, _⟩ := h
  obtain ⟨g', t', cs, fuel, p, q, hg', ht', hvar, hd, _⟩ := h
  intro g cs' hc
  have hg : g = F1.gPow ∧ cs' = F1.powTab := by
    have hc' : (bif eqb g F1.gPow then some F1.powTab else none) = some cs' := hc
    cases he : eqb g F1.gPow with
    | false => rw [he] at hc'; cases hc'
    | true => rw [he] at hc'; cases hc'; exact ⟨yd.1 he, rfl⟩
  obtain ⟨rfl, rfl⟩ := hg
  obtain rfl := Option.some.inj (F1.gPow_is.symm.trans hg')
  have hgt : (Tryz.prog.globals[F1.gPow]?).map (·.type) = some 166 := by kernel_rfl
  obtain rfl := Option.some.inj (hgt.symm.trans ht')
  have hz : (YtpkjnefhnedfdaaGreatDoor.Rows.laid_internal_strconv_uint64pow10 : DataW Unit) = Lib.tabData .u64 Lib.pow10Tab := by kernel_rfl
  rw [hz] at hd
  have hcs := cells_of_tab (n := 20) Tryz.underlying166 Tryz.underlying140 (by kernel_rfl) (by kernel_rfl) hd
  unfold World.var? at hvar
  rw [F1.gPow_is, Option.bind_some] at hvar
  split at hvar
  · rename_i c t fr hh
    cases hvar
    exact ⟨t, fr, by rw [hh, F1.powTab_is, ← hcs]⟩
  · cases hvar
noncomputable def laidWorld (os : Os) : World :=
  let n := (World.settled Tryz.prog os).heap.size
  { World.holding Tryz.prog os ⟨#[.cells #[.string ⟨#[118, 97, 108, 117, 101, 32, 111, 117, 116, 32, 111, 102, 32, 114, 97, 110, 103, 101]⟩] 174 (0, 0), .cells #[.string ⟨#[105, 110, 118, 97, 108, 105, 100, 32, 115, 121, 110, 116, 97, 120]⟩] 174 (0, 0)], #[], []⟩ with heap := ((((((((World.holding Tryz.prog os ⟨#[.cells #[.string ⟨#[118, 97, 108, 117, 101, 32, 111, 117, 116, 32, 111, 102, 32, 114, 97, 110, 103, 101]⟩] 174 (0, 0), .cells #[.string ⟨#[105, 110, 118, 97, 108, 105, 100, 32, 115, 121, 110, 116, 97, 120]⟩] 174 (0, 0)], #[], []⟩).heap.modify 6 fun | .cells _ t fr => .cells (#[.int .u8 0, .int .u8 1, .int .u8 28, .int .u8 2, .int .u8 29, .int .u8 14, .int .u8 24, .int .u8 3, .int .u8 30, .int .u8 22, .int .u8 20, .int .u8 15, .int .u8 25, .int .u8 17, .int .u8 4, .int .u8 8, .int .u8 31, .int .u8 27, .int .u8 13, .int .u8 23, .int .u8 21, .int .u8 19, .int .u8 16, .int .u8 7, .int .u8 26, .int .u8 12, .int .u8 18, .int .u8 6, .int .u8 11, .int .u8 5, .int .u8 10, .int .u8 9]) t fr | o => o).modify 7 fun | .cells _ t fr => .cells (#[.int .u8 0, .int .u8 1, .int .u8 56, .int .u8 2, .int .u8 57, .int .u8 49, .int .u8 28, .int .u8 3, .int .u8 61, .int .u8 58, .int .u8 42, .int .u8 50, .int .u8 38, .int .u8 29, .int .u8 17, .int .u8 4, .int .u8 62, .int .u8 47, .int .u8 59, .int .u8 36, .int .u8 45, .int .u8 43, .int .u8 51, .int .u8 22, .int .u8 53, .int .u8 39, .int .u8 33, .int .u8 30, .int .u8 24, .int .u8 18, .int .u8 12, .int .u8 5, .int .u8 63, .int .u8 55, .int .u8 48, .int .u8 27, .int .u8 60, .int .u8 41, .int .u8 37, .int .u8 16, .int .u8 46, .int .u8 35, .int .u8 44, .int .u8 21, .int .u8 52, .int .u8 32, .int .u8 23, .int .u8 11, .int .u8 54, .int .u8 26, .int .u8 40, .int .u8 15, .int .u8 34, .int .u8 20, .int .u8 31, .int .u8 10, .int .u8 25, .int .u8 14, .int .u8 19, .int .u8 9, .int .u8 13, .int .u8 8, .int .u8 7, .int .u8 6]) t fr | o => o).modify 3 fun | .cells _ t fr => .cells (#[.int .u64 1, .int .u64 10, .int .u64 100, .int .u64 1000, .int .u64 10000, .int .u64 100000, .int .u64 1000000, .int .u64 10000000, .int .u64 100000000, .int .u64 1000000000, .int .u64 10000000000, .int .u64 100000000000, .int .u64 1000000000000, .int .u64 10000000000000, .int .u64 100000000000000, .int .u64 1000000000000000, .int .u64 10000000000000000, .int .u64 100000000000000000, .int .u64 1000000000000000000, .int .u64 10000000000000000000]) t fr | o => o).modify 5 fun | .cells _ t fr => .cells (#[.int .u8 128, .int .u8 191, .int .u8 160, .int .u8 191, .int .u8 128, .int .u8 159, .int .u8 144, .int .u8 191, .int .u8 128, .int .u8 143, .int .u8 0, .int .u8 0, .int .u8 0, .int .u8 0, .int .u8 0, .int .u8 0, .int .u8 0, .int .u8 0, .int .u8 0, .int .u8 0, .int .u8 0, .int .u8 0, .int .u8 0, .int .u8 0, .int .u8 0, .int .u8 0, .int .u8 0, .int .u8 0, .int .u8 0, .int .u8 0, .int .u8 0, .int .u8 0]) t fr | o => o).modify 2 fun | .cells _ t fr => .cells (#[.iface 172 (.pointer (some ⟨n + 0, 0, none⟩))]) t fr | o => o).modify 1 fun | .cells _ t fr => .cells (#[.iface 172 (.pointer (some ⟨n + 1, 0, none⟩))]) t fr | o => o).modify 4 fun | .cells _ t fr => .cells ((Go.Pinned.utf8FirstZ.map fun z => Value.int .u8 (Int.ofNat z)).toArray) t fr | o => o) }
end Go.VS

/-
  RangesAdd answers true (printed by go/rladd.py, a program of this claim's own; nothing of it is trusted).
-/
namespace Go.VS
open Go
set_option maxHeartbeats 0
theorem takeL_nof {L : Bool} {e : Int} (h : takeL L e = false) : L = false := by
  unfold takeL at h
  cases he : (e == 2) <;> rw [he] at h <;> simp at h
  exact h
theorem add_true (a b c : GS S_Span) (by_ : Int) : l_RangesAdd a b c by_ = true := by
  unfold l_RangesAdd
  cases ha : r_Valid a with
  | false => rfl
  | true => cases hb : r_Valid b with
    | false => rfl
    | true => cases hc : r_Valid c with
      | false => rfl
      | true =>
      have ha := zm.1 ha
      have hb := zm.1 hb
      have hc := zm.1 hc
      simp only [cond_true]
      have t_tv1 : Tk (tL0 a b) _ (tv1 a b) := Tk.sum (Tk.base (L := false) ha) (Tk.base (L := false) hb)
      have t_tv3 : Tk (tL2 a b) _ (tv3 a b) := Tk.sum (Tk.base (L := (tL0 a b)) hb) (Tk.base (L := (tL0 a b)) ha)
      have t_tv5 : Tk (tL4 a b c) _ (tv5 a b c) := Tk.sum (t_tv1.up _) (Tk.base (L := (tL2 a b)) hc)
      have t_tv7 : Tk (tL6 a b c) _ (tv7 b c) := Tk.sum (Tk.base (L := (tL4 a b c)) hb) (Tk.base (L := (tL4 a b c)) hc)
      have t_tv9 : Tk (tL8 a b c) _ (tv9 a b c) := Tk.sum (Tk.base (L := (tL6 a b c)) ha) t_tv7
      have t_tv11 : Tk (tL10 a b c) _ (tv11 b c) := Tk.union (Tk.base (L := (tL8 a b c)) hb) (Tk.base (L := (tL8 a b c)) hc)
      have t_tv13 : Tk (tL12 a b c) _ (tv13 a b c) := Tk.sum (Tk.base (L := (tL10 a b c)) ha) t_tv11
      have t_tv15 : Tk (tL14 a b c) _ (tv15 a c) := Tk.sum (Tk.base (L := (tL12 a b c)) ha) (Tk.base (L := (tL12 a b c)) hc)
      have t_tv17 : Tk (tL16 a b c) _ (tv17 a b c) := Tk.union (((((((t_tv1.up _).up _).up _).up _).up _).up _).up _) t_tv15
      have h1 : holdsB (tL2 a b) (r_Same (tv1 a b) (tv3 a b)) = true := Tk.same (t_tv1.up _) t_tv3 (fun x => ⟨fun ⟨y, z, p, q, r⟩ => ⟨z, y, q, p, by omega⟩, fun ⟨y, z, p, q, r⟩ => ⟨z, y, q, p, by omega⟩⟩)
      have h2 : holdsB (tL8 a b c) (r_Same (tv5 a b c) (tv9 a b c)) = true := Tk.same ((t_tv5.up _).up _) t_tv9 (fun x => ⟨fun ⟨_, z, ⟨u, v, p, q, r⟩, s, t⟩ => ⟨u, v + z, p, ⟨v, z, q, s, rfl⟩, by omega⟩, fun ⟨y, _, p, ⟨u, v, q, r, s⟩, t⟩ => ⟨y + u, v, ⟨y, u, p, q, rfl⟩, r, by omega⟩⟩)
      have h3 : holdsB (tL16 a b c) (r_Same (tv13 a b c) (tv17 a b c)) = true := Tk.same ((t_tv13.up _).up _) t_tv17 (fun x => ⟨fun ⟨y, z, p, q, r⟩ => q.imp (fun q => ⟨y, z, p, q, r⟩) (fun q => ⟨y, z, p, q, r⟩), fun h => h.elim (fun ⟨y, z, p, q, r⟩ => ⟨y, z, p, .inl q, r⟩) (fun ⟨y, z, p, q, r⟩ => ⟨y, z, p, .inr q, r⟩)⟩)
      have h5 : holdsB (tL20 a b by_) true = true := holds_of (.inr rfl)
      rw [h1, h2, h3, h5]
      simp only [cond_true]
      cases hL : tL16 a b c with
      | true => rfl
      | false =>
        have q14 := takeL_nof hL
        have q12 := takeL_nof q14
        have q10 := takeL_nof q12
        have q8 := takeL_nof q10
        have q6 := takeL_nof q8
        have q4 := takeL_nof q6
        have q2 := takeL_nof q4
        have q0 : tL0 a b = false := takeL_nof q2
        have t_tv19 : Tk (tL18 a by_) _ (tv19 a by_) := Tk.shift by_ (Tk.base (L := false) ha)
        have t_tv21 : Tk (tL20 a b by_) _ (tv21 a b by_) := Tk.sum t_tv19 (Tk.base (L := (tL18 a by_)) hb)
        have t_tv23 : Tk (tL22 a b by_) _ (tv23 a b by_) := Tk.shift by_ (t_tv1.down (by assumption))
        have h4 : holdsB (tL22 a b by_) (r_Same (tv21 a b by_) (tv23 a b by_)) = true := Tk.same (t_tv21.up _) t_tv23 (fun x => ⟨fun ⟨y, z, p, q, r⟩ => ⟨y - by_, z, p, q, by omega⟩, fun ⟨y, z, p, q, r⟩ => ⟨y + by_, z, by rw [show y + by_ - by_ = y by omega]; exact p, q, by omega⟩⟩)
        rw [h4]; rfl
theorem law_add (a b c : GS S_Span) (by_ : Int) : a.l.length ≤ 9223372036854775807 → b.l.length ≤ 9223372036854775807 → c.l.length ≤ 9223372036854775807 → R64 by_ → (lim cfg).pure 11 [GS.D S_Span.D 2 a, GS.D S_Span.D 2 b, GS.D S_Span.D 2 c, I by_] = some (B true) := fun h1 h2 h3 _ => by
  rw [T_l_RangesAdd a b c by_ h1 h2 h3, add_true]
end Go.VS

