/- The given statement named in GOCLAIM.json is proved here in full, for every argument that the statement speaks of. Conditions: none beyond the statement's own. -/
import Derived.Test.YtbndhgnkgoggmaaDoorVsCardW6
set_option linter.unusedSimpArgs false
set_option linter.unusedVariables false
namespace Go.Proofs.YtbndhgnkgoggmaaDoor.paperWithoutSpec
open Go.ChangeShapes Go.WideShapes Go.ChangeAt Go.RowKit Go.VS
set_option maxRecDepth 100000
theorem own : ownKnob Tryd.prog.godebug = none := by kernel_rfl
/-- What the call answers, for every argument and every world that holds the variable. -/
theorem contract (H : Type) (enc : TypeId × Value → H) (W : World) (base : Nat) (args : Array Value) (ds gs : List (DataW H)) (before : List MemPlace)
    (hval : ∀ (j : Nat) t v, Tryd.f12.params[j]? = some t → args[j]? = some v → Value.okWide Tryd.prog W .any base t v)
    (hW : DataW.Whole enc Tryd.prog Tryd.f12.params.toList Rows.paperWithoutSpecSpec.vars false W args.toList ds gs before) (hL : laidMetH Tryd.prog Rows.paperWithoutSpecRow.laid W) :
    Calls Tryd.prog 12 args W fun e W' => ∃ v, e = .returned v ∧ Rows.paperWithoutSpecSpec.post enc Tryd.prog Tryd.f12 false true false false W args v W' := by
  have hW' := hW
  obtain ⟨p, q, hA0, hV, rfl, hfz, hnd⟩ := hW
  have hA : DataW.TrodAll enc Tryd.prog W 0 (fun _ => true) true Tryd.f12.params.toList args.toList ds p := hA0
  clear hA0
  rw [Tryd.params12] at hA hval
  obtain ⟨v0, vs0, d0, ds0, p0, q0, hargs0, rfl, rfl, t0, r0⟩ := trodAll_cons hA
  obtain ⟨v1, vs1, d1, ds1, p1, q1, hargs1, rfl, rfl, t1, r1⟩ := trodAll_cons r0
  subst hargs1
  obtain ⟨v2, vs2, d2, ds2, p2, q2, hargs2, rfl, rfl, t2, r2⟩ := trodAll_cons r1
  subst hargs2
  obtain ⟨v3, vs3, d3, ds3, p3, q3, hargs3, rfl, rfl, t3, r3⟩ := trodAll_cons r2
  subst hargs3
  obtain ⟨rfl, rfl, rfl⟩ := trodAll_nil r3
  obtain rfl : args = #[v0, v1, v2, v3] := by cases args; simp_all
  obtain ⟨a0, h0, w0, R0⟩ := arg_paper t0 (hval 0 25 v0 rfl rfl)
  obtain ⟨a1, h1, R1⟩ := arg_reason t1 (hval 1 81 v1 rfl rfl)
  obtain ⟨a2, e2, R2⟩ := arg_int t2 (hval 2 3 v2 rfl rfl)
  have h2 : Rep (memOf W) noLoc (I a2) v2 := by rw [e2]; simp [Rep]
  obtain ⟨a3, e3, R3⟩ := arg_int t3 (hval 3 3 v3 rfl rfl)
  have h3 : Rep (memOf W) noLoc (I a3) v3 := by rw [e3]; simp [Rep]
  refine law_post (C := cfg) cfgOK extOK laid_out maps_rowed sl_full (Go.VS.t12 a0 a1 a2 a3 w0) (W := W) (args := #[v0, v1, v2, v3]) ?_ (globOK hL) (f := Tryd.f12) (s := Rows.paperWithoutSpecSpec) hW' rfl rfl (tb := 4) rfl Tryd.underlying4 ?_
  · simp only [zC]
    exact ⟨_, _, rfl, h0, ⟨_, _, rfl, h1, ⟨_, _, rfl, h2, ⟨_, _, rfl, h3, rfl⟩⟩⟩⟩
  · intro t ht
    rw [Tryd.params12] at ht
    have hsz : 81 < Tryd.prog.types.size := of_decide_eq_true (by kernel_rfl)
    simp at ht
    rcases ht with rfl | rfl | rfl | rfl <;> exact Nat.lt_of_le_of_lt (by decide) hsz
noncomputable def laidWorld (os : Os) : World :=
  { World.holding Tryd.prog os ⟨#[], #[], []⟩ with heap := (World.holding Tryd.prog os ⟨#[], #[], []⟩).heap.modify 0 fun
      | .cells _ t frozen => .cells #[.int .i64 1, .int .i64 1] t frozen
      | o => o }
def wargs : Array Value := #[.agg #[.int .i64 0, .slice none 0 0, .slice none 0 0], .agg #[.bool false, .int .i64 0, .bool false], .int .i64 0, .int .i64 0]
theorem laid_met (os : Os) : laidMet Tryd.prog Rows.paperWithoutSpecRow.laid ((laidWorld os).forCall (fun _ _ => 0) ⟨#[], wargs, []⟩).memory :=
  laidMet_of_run' 8 (by kernel_rfl) (by kernel_rfl)
theorem reads (os : Os) {H : Type} (enc : TypeId × Value → H) : ∃ places, DataW.whole enc Tryd.prog ((laidWorld os).forCall (fun _ _ => 0) ⟨#[], wargs, []⟩).memory Tryd.f12.params.toList Rows.paperWithoutSpecSpec.vars false wargs.toList 8 = some ([.agg [.lit (.int .i64 0), .nil, .nil], .agg [.lit (.bool false), .lit (.int .i64 0), .lit (.bool false)], .lit (.int .i64 0), .lit (.int .i64 0)], [], places) :=
  ⟨[], by kernel_rfl⟩
theorem lifted (os : Os) (started : os.Started) (H : Type) (enc : TypeId × Value → H) (F : Stop.Interp) :
    ReturnsInHanded {} Tryd.checked os 12 .any ((OpenSpec.ofChange Rows.paperWithoutSpecSpec).preRow enc Tryd.prog Tryd.f12 Rows.paperWithoutSpecRow.domain false Rows.paperWithoutSpecRow.laid) (((OpenSpec.ofChange Rows.paperWithoutSpecSpec).at F).post enc Tryd.prog Tryd.f12 false true false false) := by
  obtain ⟨places, hx⟩ := reads os enc
  refine returnsInHanded_of_row (C := Tryd.checked) (s := OpenSpec.ofChange Rows.paperWithoutSpecSpec) own started (by kernel_rfl) Tryd.func12
    (witness_row_at (enc := enc) (C := Tryd.checked) false (laidWorld os) wargs rfl (by kernel_rfl) (by kernel_rfl) (by kernel_rfl)
      (OpenSpec.preRow_of_cond 8 hx (by kernel_rfl) (fun k hk => by cases hk) (by kernel_rfl) (laid_met os))) ?_
  intro W base args ds gs before hval hW _ _ _ hL _ _
  exact contract H enc W base args ds gs before hval hW hL
theorem said : Rows.PaperWithoutSpecSaid :=
  OpenClaim.holds_of_cond 12 Tryd.f12 rfl rfl rfl rfl rfl rfl rfl ⟨rfl, rfl, rfl, rfl, rfl⟩ rfl rfl rfl rfl rfl (by kernel_rfl) Tryd.func12 (by kernel_rfl)
    (of_decide_eq_true (by kernel_rfl)) (by unfold Func.isWrapper; first | (rw [if_pos (by decide +kernel)]; kernel_rfl) | (rw [if_neg (by decide +kernel)]; exact ⟨rfl, rfl⟩))
    (fun os started H enc _ F => by rw [OpenClaim.pre_eq_preRow]; exact lifted os started H enc F)
theorem plain (f : FuncId) (fn : Func) (hf : Tryd.pinned.checked.prog.funcNamed "acreage/acreagelaw03.PaperWithoutSpec" = some f) (hfn : Tryd.pinned.checked.prog.funcs[f]? = some fn) :
    false = Tryd.pinned.checked.prog.looks [] ∧ ∀ (j : Nat) t, fn.params[j]? = some t → Tryd.pinned.checked.prog.wantsStandIn t = false := by
  obtain rfl : f = 12 := Option.some.inj ((show Tryd.prog.funcNamed "acreage/acreagelaw03.PaperWithoutSpec" = some 12 by kernel_rfl).symm.trans hf) |>.symm
  obtain rfl : fn = Tryd.f12 := (Option.some.inj (Tryd.func12.symm.trans hfn)).symm
  refine ⟨by kernel_rfl, fun j t ht => ?_⟩
  rw [Tryd.params12] at ht
  have hm := Array.mem_of_getElem? ht
  have key : ∀ u ∈ [3, 25, 81], Tryd.prog.wantsStandIn u = false := by
    intro u hu
    simp at hu
    rcases hu with rfl | rfl | rfl <;> kernel_rfl
  simp at hm
  rcases hm with rfl | rfl | rfl | rfl <;> exact key _ (by simp)
theorem card : Rows.PaperWithoutSpecCardSaid :=
  Claim7.holds_tied_plain_at .later [] _ _ _ _ said (fun _ h => by cases h) (by kernel_rfl) (fun _ h => by cases h) paperWithoutSpec_row_tie rfl ⟨rfl, rfl⟩ (by kernel_rfl) rfl plain (by kernel_rfl)
end Go.Proofs.YtbndhgnkgoggmaaDoor.paperWithoutSpec

