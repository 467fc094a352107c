/- The given statement named in GOCLAIM.json is proved here in full, for every argument that the statement speaks of. Conditions: none beyond the statement's own. -/
import Derived.Test.YtmdmclbpnkdimaaGreatDoorVsRCAro7
import Derived.Test.YtmdmclbpnkdimaaGreatDoorCards
import Derived.Test.YtmdmclbpnkdimaaGreatDoorTie
set_option linter.unusedSimpArgs false
set_option linter.unusedVariables false
namespace Go.Proofs.YtmdmclbpnkdimaaGreatDoor.rangesAround
open Go.ChangeShapes Go.WideShapes Go.ChangeAt Go.RowKit Go.VS
set_option maxRecDepth 100000
theorem own:ownKnob Tryz.prog.godebug=none:=by kernel_rfl
theorem contract (H:Type) (enc:TypeId × Value→H) (W:World) (base:Nat) (args:Array Value) (ds gs:List (DataW H)) (before:List MemPlace)
  (hval:∀ (j:Nat) t v,Tryz.f8.params[j]?=some t→args[j]?=some v→Value.okWide Tryz.prog W .any base t v)
  (hW:DataW.Whole enc Tryz.prog Tryz.f8.params.toList Rows.rangesAroundSpec.vars false W args.toList ds gs before) (hL:laidMetH Tryz.prog Rows.rangesAroundRow.laid W) :
  Calls Tryz.prog 8 args W fun e W'=>∃ v,e=.returned v∧Rows.rangesAroundSpec.post enc Tryz.prog Tryz.f8 false true false false W args v W':=by
 have hW':=hW
 obtain ⟨p,q,hA0,hV,rfl,hfz,hnd⟩:=hW
 have hA:DataW.TrodAll enc Tryz.prog W 0 (fun _=>true) true Tryz.f8.params.toList args.toList ds p:=hA0
 clear hA0
 rw [Tryz.params8] at hA hval
 obtain ⟨v0,vs0,d0,ds0,p0,q0,hargs0,rfl,rfl,t0,r0⟩:=trodAll_cons hA
 obtain ⟨v1,vs1,d1,ds1,p1,q1,hargs1,rfl,rfl,t1,r1⟩:=trodAll_cons r0
 subst hargs1
 obtain ⟨v2,vs2,d2,ds2,p2,q2,hargs2,rfl,rfl,t2,r2⟩:=trodAll_cons r1
 subst hargs2
 obtain ⟨v3,vs3,d3,ds3,p3,q3,hargs3,rfl,rfl,t3,r3⟩:=trodAll_cons r2
 subst hargs3
 obtain ⟨v4,vs4,d4,ds4,p4,q4,hargs4,rfl,rfl,t4,r4⟩:=trodAll_cons r3
 subst hargs4
 obtain ⟨rfl,rfl,rfl⟩:=trodAll_nil r4
 obtain rfl:args=#[v0,v1,v2,v3,v4]:=by cases args; simp_all
 obtain ⟨a0,h0,w0⟩:=arg23 t0 (hval 0 23 v0 rfl rfl)
 obtain ⟨a1,h1,w1⟩:=arg3 t1 (hval 1 3 v1 rfl rfl)
 obtain ⟨a2,h2,w2⟩:=arg25 t2 (hval 2 25 v2 rfl rfl)
 obtain ⟨a3,h3,w3⟩:=arg3 t3 (hval 3 3 v3 rfl rfl)
 obtain ⟨a4,h4,w4⟩:=arg3 t4 (hval 4 3 v4 rfl rfl)
 refine law_post (C:=cfg) cfgOK extOK laid_out maps_rowed sl_full (law_around a0 a1 a2 a3 a4 w0 w1 w2 w3 w4) (W:=W) (args:=#[v0,v1,v2,v3,v4]) ?_ globOK (f:=Tryz.f8) (s:=Rows.rangesAroundSpec) hW' rfl rfl (tb:=4) rfl Tryz.underlying4 ?_ (tab_ok hL)
 ·simp only [zU]
  exact ⟨_,_,rfl,h0,⟨_,_,rfl,h1,⟨_,_,rfl,h2,⟨_,_,rfl,h3,⟨_,_,rfl,h4,rfl⟩⟩⟩⟩⟩
 ·intro t ht
  rw [Tryz.params8] at ht
  have hsz:25 < Tryz.prog.types.size:=of_decide_eq_true (by kernel_rfl)
  simp at ht
  rcases ht with rfl | rfl | rfl | rfl | rfl <;> exact Nat.lt_of_le_of_lt (by decide) hsz
def wargs:Array Value:=#[.slice none 0 0,.int .i64 0,.agg #[.int .i64 0,.int .i64 0],.int .i64 0,.int .i64 0]
theorem laid_met (os:Os):laidMet Tryz.prog Rows.rangesAroundRow.laid ((laidWorld os).forCall (fun _ _=>0) ⟨#[],wargs,[]⟩).memory :=
 laidMet_of_run' 8 (by kernel_rfl) (by kernel_rfl)
theorem reads (os:Os) {H:Type} (enc:TypeId × Value→H):∃ places,DataW.whole enc Tryz.prog ((laidWorld os).forCall (fun _ _=>0) ⟨#[],wargs,[]⟩).memory Tryz.f8.params.toList Rows.rangesAroundSpec.vars false wargs.toList 8=some ([.nil,.lit (.int .i64 0),.agg [.lit (.int .i64 0),.lit (.int .i64 0)],.lit (.int .i64 0),.lit (.int .i64 0)],[],places) :=
 ⟨[],by kernel_rfl⟩
theorem lifted (os:Os) (started:os.Started) (H:Type) (enc:TypeId × Value→H) (F:Stop.Interp) :
  ReturnsInHanded {} Tryz.checked os 8 .any ((OpenSpec.ofChange Rows.rangesAroundSpec).preRow enc Tryz.prog Tryz.f8 Rows.rangesAroundRow.domain false Rows.rangesAroundRow.laid) (((OpenSpec.ofChange Rows.rangesAroundSpec).at F).post enc Tryz.prog Tryz.f8 false true false false):=by
 obtain ⟨places,hx⟩:=reads os enc
 refine returnsInHanded_of_row (C:=Tryz.checked) (s:=OpenSpec.ofChange Rows.rangesAroundSpec) own started (by kernel_rfl) Tryz.func8
  (witness_row_at (enc:=enc) (C:=Tryz.checked) false (laidWorld os) wargs rfl (by kernel_rfl) (by kernel_rfl) (by kernel_rfl)
   (OpenSpec.preRow_of_cond 8 hx (by kernel_rfl) (fun k hk=>by cases hk) (by kernel_rfl) (laid_met os))) ?_
 intro W base args ds gs before hval hW _ _ _ hL _ _
 exact contract H enc W base args ds gs before hval hW hL
theorem said:Rows.RangesAroundSaid :=
 OpenClaim.holds_of_cond 8 Tryz.f8 rfl rfl rfl rfl rfl rfl rfl ⟨rfl,rfl,rfl,rfl,rfl⟩ rfl rfl rfl rfl rfl (by kernel_rfl) Tryz.func8 (by kernel_rfl)
  (of_decide_eq_true (by kernel_rfl)) (by unfold Func.isWrapper; first | (rw [if_pos (by decide +kernel)]; kernel_rfl) | (rw [if_neg (by decide +kernel)]; exact ⟨rfl,rfl⟩))
  (fun os started H enc _ F=>by rw [OpenClaim.pre_eq_preRow]; exact lifted os started H enc F)
theorem plain (f : FuncId) (fn : Func) (hf : Tryz.pinned.checked.prog.funcNamed "acreage/acreagelaw02.RangesAround" = some f) (hfn : Tryz.pinned.checked.prog.funcs[f]? = some fn) :
  true=Tryz.pinned.checked.prog.looks []∧∀ (j:Nat) t,fn.params[j]?=some t→Tryz.pinned.checked.prog.wantsStandIn t=false:=by
 obtain rfl : f = 8 := Option.some.inj ((show Tryz.prog.funcNamed "acreage/acreagelaw02.RangesAround" = some 8 by kernel_rfl).symm.trans hf) |>.symm
 obtain rfl:fn=Tryz.f8:=(Option.some.inj (Tryz.func8.symm.trans hfn)).symm
 refine ⟨by kernel_rfl,fun j t ht=>?_⟩
 rw [Tryz.params8] at ht
 have hm:=Array.mem_of_getElem? ht
 have key:∀ u∈[3,23,25],Tryz.prog.wantsStandIn u=false:=by
  intro u hu
  simp at hu
  rcases hu with rfl | rfl | rfl <;> kernel_rfl
 simp at hm
 rcases hm with rfl | rfl | rfl | rfl | rfl <;> exact key _ (by simp)
theorem card:Rows.RangesAroundCardSaid :=
 Claim7.holds_tied_plain_at .later [] _ _ _ _ said (fun _ h=>by cases h) (by kernel_rfl) (fun _ h=>by cases h) rangesAround_row_tie rfl ⟨rfl,rfl⟩ (by kernel_rfl) rfl plain (by kernel_rfl)
end Go.Proofs.YtmdmclbpnkdimaaGreatDoor.rangesAround

