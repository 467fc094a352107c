/- The given statement named in GOCLAIM.json is proved here in full, for every argument that the statement speaks of. Conditions: none beyond the statement's own. -/
import Derived.Test.YtbndhgnkgoggmaaDoorVsCardM5
set_option linter.unusedSimpArgs false
set_option linter.unusedVariables false
namespace Go.Proofs.YtbndhgnkgoggmaaDoor.paperMore
open Go.ChangeShapes Go.WideShapes Go.ChangeAt Go.RowKit Go.VS
set_option maxRecDepth 100000
theorem own : ownKnob Tryd.prog.godebug = none := by kernel_rfl
/-- What the call answers, for every argument and every world that holds the variable. -/
theorem contract (H : Type) (enc : TypeId × Value → H) (W : World) (base : Nat) (args : Array Value) (ds gs : List (DataW H)) (before : List MemPlace)
    (hval : ∀ (j : Nat) t v, Tryd.f13.params[j]? = some t → args[j]? = some v → Value.okWide Tryd.prog W .any base t v)
    (hW : DataW.Whole enc Tryd.prog Tryd.f13.params.toList Rows.paperMoreSpec.vars false W args.toList ds gs before) (hL : laidMetH Tryd.prog Rows.paperMoreRow.laid W) :
    Calls Tryd.prog 13 args W fun e W' => ∃ v, e = .returned v ∧ Rows.paperMoreSpec.post enc Tryd.prog Tryd.f13 false true false false W args v W' := by
  have hW' := hW
  obtain ⟨p, q, hA0, hV, rfl, hfz, hnd⟩ := hW
  have hA : DataW.TrodAll enc Tryd.prog W 0 (fun _ => true) true Tryd.f13.params.toList args.toList ds p := hA0
  clear hA0
  rw [Tryd.params13] at hA hval
  obtain ⟨v0, vs0, d0, ds0, p0, q0, hargs0, rfl, rfl, t0, r0⟩ := trodAll_cons hA
  obtain ⟨v1, vs1, d1, ds1, p1, q1, hargs1, rfl, rfl, t1, r1⟩ := trodAll_cons r0
  subst hargs1
  obtain ⟨v2, vs2, d2, ds2, p2, q2, hargs2, rfl, rfl, t2, r2⟩ := trodAll_cons r1
  subst hargs2
  obtain ⟨v3, vs3, d3, ds3, p3, q3, hargs3, rfl, rfl, t3, r3⟩ := trodAll_cons r2
  subst hargs3
  obtain ⟨v4, vs4, d4, ds4, p4, q4, hargs4, rfl, rfl, t4, r4⟩ := trodAll_cons r3
  subst hargs4
  obtain ⟨v5, vs5, d5, ds5, p5, q5, hargs5, rfl, rfl, t5, r5⟩ := trodAll_cons r4
  subst hargs5
  obtain ⟨v6, vs6, d6, ds6, p6, q6, hargs6, rfl, rfl, t6, r6⟩ := trodAll_cons r5
  subst hargs6
  obtain ⟨v7, vs7, d7, ds7, p7, q7, hargs7, rfl, rfl, t7, r7⟩ := trodAll_cons r6
  subst hargs7
  obtain ⟨v8, vs8, d8, ds8, p8, q8, hargs8, rfl, rfl, t8, r8⟩ := trodAll_cons r7
  subst hargs8
  obtain ⟨rfl, rfl, rfl⟩ := trodAll_nil r8
  obtain rfl : args = #[v0, v1, v2, v3, v4, v5, v6, v7, v8] := by cases args; simp_all
  obtain ⟨a0, h0, w0, R0⟩ := arg_paper t0 (hval 0 25 v0 rfl rfl)
  obtain ⟨a1, h1, R1⟩ := arg_mark t1 (hval 1 37 v1 rfl rfl)
  obtain ⟨a2, h2, R2⟩ := arg_join t2 (hval 2 39 v2 rfl rfl)
  obtain ⟨a3, e3⟩ := arg_bool t3 (hval 3 4 v3 rfl rfl)
  have h3 : Rep (memOf W) noLoc (B a3) v3 := by rw [e3]; simp [Rep]
  obtain ⟨a4, e4, R4⟩ := arg_int t4 (hval 4 3 v4 rfl rfl)
  have h4 : Rep (memOf W) noLoc (I a4) v4 := by rw [e4]; simp [Rep]
  obtain ⟨a5, e5, R5⟩ := arg_int t5 (hval 5 3 v5 rfl rfl)
  have h5 : Rep (memOf W) noLoc (I a5) v5 := by rw [e5]; simp [Rep]
  obtain ⟨a6, e6, R6⟩ := arg_int t6 (hval 6 3 v6 rfl rfl)
  have h6 : Rep (memOf W) noLoc (I a6) v6 := by rw [e6]; simp [Rep]
  obtain ⟨a7, h7, R7⟩ := arg_span t7 (hval 7 65 v7 rfl rfl)
  obtain ⟨a8, h8, R8⟩ := arg_reason t8 (hval 8 81 v8 rfl rfl)
  refine law_post (C := cfg) cfgOK extOK laid_out maps_rowed sl_full (Go.VS.t13 a0 a1 a2 a4 a5 a6 a7 a8 a3 w0) (W := W) (args := #[v0, v1, v2, v3, v4, v5, v6, v7, v8]) ?_ (globOK hL) (f := Tryd.f13) (s := Rows.paperMoreSpec) hW' rfl rfl (tb := 4) rfl Tryd.underlying4 ?_
  · simp only [zC]
    exact ⟨_, _, rfl, h0, ⟨_, _, rfl, h1, ⟨_, _, rfl, h2, ⟨_, _, rfl, h3, ⟨_, _, rfl, h4, ⟨_, _, rfl, h5, ⟨_, _, rfl, h6, ⟨_, _, rfl, h7, ⟨_, _, rfl, h8, rfl⟩⟩⟩⟩⟩⟩⟩⟩⟩
  · intro t ht
    rw [Tryd.params13] at ht
    have hsz : 81 < Tryd.prog.types.size := of_decide_eq_true (by kernel_rfl)
    simp at ht
    rcases ht with rfl | rfl | rfl | rfl | rfl | rfl | rfl | rfl | rfl <;> exact Nat.lt_of_le_of_lt (by decide) hsz
noncomputable def laidWorld (os : Os) : World :=
  { World.holding Tryd.prog os ⟨#[], #[], []⟩ with heap := (World.holding Tryd.prog os ⟨#[], #[], []⟩).heap.modify 0 fun
      | .cells _ t frozen => .cells #[.int .i64 1, .int .i64 1] t frozen
      | o => o }
def wargs : Array Value := #[.agg #[.int .i64 0, .slice none 0 0, .slice none 0 0], .agg #[.int .i64 0, .int .i64 0, .int .i64 0, .int .i64 0, .int .i64 0], .agg #[.int .i64 0, .int .i64 0, .int .i64 0, .int .i64 0, .int .i64 0, .int .i64 0, .int .i64 0], .bool false, .int .i64 0, .int .i64 0, .int .i64 0, .agg #[.int .i64 0, .int .i64 0], .agg #[.bool false, .int .i64 0, .bool false]]
theorem laid_met (os : Os) : laidMet Tryd.prog Rows.paperMoreRow.laid ((laidWorld os).forCall (fun _ _ => 0) ⟨#[], wargs, []⟩).memory :=
  laidMet_of_run' 8 (by kernel_rfl) (by kernel_rfl)
theorem reads (os : Os) {H : Type} (enc : TypeId × Value → H) : ∃ places, DataW.whole enc Tryd.prog ((laidWorld os).forCall (fun _ _ => 0) ⟨#[], wargs, []⟩).memory Tryd.f13.params.toList Rows.paperMoreSpec.vars false wargs.toList 8 = some ([.agg [.lit (.int .i64 0), .nil, .nil], .agg [.lit (.int .i64 0), .lit (.int .i64 0), .lit (.int .i64 0), .lit (.int .i64 0), .lit (.int .i64 0)], .agg [.lit (.int .i64 0), .lit (.int .i64 0), .lit (.int .i64 0), .lit (.int .i64 0), .lit (.int .i64 0), .lit (.int .i64 0), .lit (.int .i64 0)], .lit (.bool false), .lit (.int .i64 0), .lit (.int .i64 0), .lit (.int .i64 0), .agg [.lit (.int .i64 0), .lit (.int .i64 0)], .agg [.lit (.bool false), .lit (.int .i64 0), .lit (.bool false)]], [], places) :=
  ⟨[], by kernel_rfl⟩
theorem lifted (os : Os) (started : os.Started) (H : Type) (enc : TypeId × Value → H) (F : Stop.Interp) :
    ReturnsInHanded {} Tryd.checked os 13 .any ((OpenSpec.ofChange Rows.paperMoreSpec).preRow enc Tryd.prog Tryd.f13 Rows.paperMoreRow.domain false Rows.paperMoreRow.laid) (((OpenSpec.ofChange Rows.paperMoreSpec).at F).post enc Tryd.prog Tryd.f13 false true false false) := by
  obtain ⟨places, hx⟩ := reads os enc
  refine returnsInHanded_of_row (C := Tryd.checked) (s := OpenSpec.ofChange Rows.paperMoreSpec) own started (by kernel_rfl) Tryd.func13
    (witness_row_at (enc := enc) (C := Tryd.checked) false (laidWorld os) wargs rfl (by kernel_rfl) (by kernel_rfl) (by kernel_rfl)
      (OpenSpec.preRow_of_cond 8 hx (by kernel_rfl) (fun k hk => by cases hk) (by kernel_rfl) (laid_met os))) ?_
  intro W base args ds gs before hval hW _ _ _ hL _ _
  exact contract H enc W base args ds gs before hval hW hL
theorem said : Rows.PaperMoreSaid :=
  OpenClaim.holds_of_cond 13 Tryd.f13 rfl rfl rfl rfl rfl rfl rfl ⟨rfl, rfl, rfl, rfl, rfl⟩ rfl rfl rfl rfl rfl (by kernel_rfl) Tryd.func13 (by kernel_rfl)
    (of_decide_eq_true (by kernel_rfl)) (by unfold Func.isWrapper; first | (rw [if_pos (by decide +kernel)]; kernel_rfl) | (rw [if_neg (by decide +kernel)]; exact ⟨rfl, rfl⟩))
    (fun os started H enc _ F => by rw [OpenClaim.pre_eq_preRow]; exact lifted os started H enc F)
theorem plain (f : FuncId) (fn : Func) (hf : Tryd.pinned.checked.prog.funcNamed "acreage/acreagelaw03.PaperMore" = some f) (hfn : Tryd.pinned.checked.prog.funcs[f]? = some fn) :
    false = Tryd.pinned.checked.prog.looks [] ∧ ∀ (j : Nat) t, fn.params[j]? = some t → Tryd.pinned.checked.prog.wantsStandIn t = false := by
  obtain rfl : f = 13 := Option.some.inj ((show Tryd.prog.funcNamed "acreage/acreagelaw03.PaperMore" = some 13 by kernel_rfl).symm.trans hf) |>.symm
  obtain rfl : fn = Tryd.f13 := (Option.some.inj (Tryd.func13.symm.trans hfn)).symm
  refine ⟨by kernel_rfl, fun j t ht => ?_⟩
  rw [Tryd.params13] at ht
  have hm := Array.mem_of_getElem? ht
  have key : ∀ u ∈ [3, 4, 25, 37, 39, 65, 81], Tryd.prog.wantsStandIn u = false := by
    intro u hu
    simp at hu
    rcases hu with rfl | rfl | rfl | rfl | rfl | rfl | rfl <;> kernel_rfl
  simp at hm
  rcases hm with rfl | rfl | rfl | rfl | rfl | rfl | rfl | rfl | rfl <;> exact key _ (by simp)
theorem card : Rows.PaperMoreCardSaid :=
  Claim7.holds_tied_plain_at .later [] _ _ _ _ said (fun _ h => by cases h) (by kernel_rfl) (fun _ h => by cases h) paperMore_row_tie rfl ⟨rfl, rfl⟩ (by kernel_rfl) rfl plain (by kernel_rfl)
end Go.Proofs.YtbndhgnkgoggmaaDoor.paperMore

