/- Nothing of a statement is proved in this text alone: it is part 3 of the proof's own tools, an evaluator of the code over deep values, its soundness, and what it makes of this seat's functions. Conditions: none beyond the statement's own. -/
import Derived.Test.YtpkjnefhnedfdaaGreatDoorVsRCElem2
import Derived.Shelf.SlGeneric
import Derived.Shelf.SlLaysF0
import Derived.Ground.SlsfProg
import Derived.Shelf.Strings.OnBuilder
import Derived.Shelf.LaysM
import Derived.Shelf.Strconv.Itoa3
import Derived.Test.YtpkjnefhnedfdaaGreatDoorProg
import Derived.Lib.LaidTab
set_option linter.unusedSimpArgs false
set_option linter.unusedVariables false
namespace Go.VS.F0
open Go Go.Proofs
noncomputable def cfg : Cfg := { P := Tryz.prog, fn := zh.find, ty := zo.find, keep := find2 keepTab, inl := fun K => memN K [36, 38, 43, 44, 60, 61, 62, 63, 64, 69, 70, 72, 82, 87, 96, 103, 108, 110, 111, 112, 117, 121, 122, 132, 133, 134, 135, 136, 137, 138, 139, 144, 145, 146, 147, 158, 160, 161, 162, 172, 190], ext := fun _ => none, xinl := fun _ => none, glob := fun _ => none, eqok := fun t => (eqTab.find t).isSome }
theorem cfg_fn : cfg.fn = zh.find := rfl
theorem cfg_ty : cfg.ty = zo.find := rfl
theorem cfg_eqok (t : TypeId) : cfg.eqok t = (eqTab.find t).isSome := rfl
theorem cfgOK : CfgOK cfg where
  ty := fun _ _ h => tyTab_ok.find h
  fn := fun _ _ h => fnTab_ok.find h
  enter := fun _ _ h => enTab_ok.find h
  mixed := by kernel_rfl
  eqok := fun t h => by
    have h1 : (eqTab.find t).isSome = true := h
    cases hf : eqTab.find t with
    | none => rw [hf] at h1; cases h1
    | some u =>
      have := eqTab_ok.find hf
      unfold eqB at this
      simp only [Bool.and_eq_true, Bool.not_eq_true'] at this
      refine ⟨this.1.1, this.1.2, fun fs hfs f hm => ?_⟩
      have h2 := this.2
      have hfs' : Tryz.prog.underlying t = some (.struct fs) := hfs
      rw [hfs'] at h2
      simp only [List.all_eq_true, bne_iff_ne] at h2
      exact h2 f hm
theorem globOK {M : Mem} : zD cfg M := fun g d h => by cases h
theorem ck {S : Sm} {objs : List (Nat × Ob)} {nxt K : Nat} {args : List D} {fn : Func} (h : zh.find K = some fn) (hi : memN K [36, 38, 43, 44, 60, 61, 62, 63, 64, 69, 70, 72, 82, 87, 96, 103, 108, 110, 111, 112, 117, 121, 122, 132, 133, 134, 135, 136, 137, 138, 139, 144, 145, 146, 147, 158, 160, 161, 162, 172, 190] = false) : z8 cfg S objs nxt K args = z6 S objs nxt K args := by
  simp only [z8, cfg_fn, h]
  rw [show cfg.inl K = memN K [36, 38, 43, 44, 60, 61, 62, 63, 64, 69, 70, 72, 82, 87, 96, 103, 108, 110, 111, 112, 117, 121, 122, 132, 133, 134, 135, 136, 137, 138, 139, 144, 145, 146, 147, 158, 160, 161, 162, 172, 190] from rfl, hi]
  rfl
theorem lck2 {S : Sm} {objs : List (Nat × Ob)} {nxt : Nat} {args : List D} : z8 cfg S objs nxt 2 args = z6 S objs nxt 2 args := ck cfn2 rfl
theorem lck3 {S : Sm} {objs : List (Nat × Ob)} {nxt : Nat} {args : List D} : z8 cfg S objs nxt 3 args = z6 S objs nxt 3 args := ck cfn3 rfl
theorem lck4 {S : Sm} {objs : List (Nat × Ob)} {nxt : Nat} {args : List D} : z8 cfg S objs nxt 4 args = z6 S objs nxt 4 args := ck cfn4 rfl
theorem lck5 {S : Sm} {objs : List (Nat × Ob)} {nxt : Nat} {args : List D} : z8 cfg S objs nxt 5 args = z6 S objs nxt 5 args := ck cfn5 rfl
theorem lck6 {S : Sm} {objs : List (Nat × Ob)} {nxt : Nat} {args : List D} : z8 cfg S objs nxt 6 args = z6 S objs nxt 6 args := ck cfn6 rfl
theorem lck7 {S : Sm} {objs : List (Nat × Ob)} {nxt : Nat} {args : List D} : z8 cfg S objs nxt 7 args = z6 S objs nxt 7 args := ck cfn7 rfl
theorem lck8 {S : Sm} {objs : List (Nat × Ob)} {nxt : Nat} {args : List D} : z8 cfg S objs nxt 8 args = z6 S objs nxt 8 args := ck cfn8 rfl
theorem lck9 {S : Sm} {objs : List (Nat × Ob)} {nxt : Nat} {args : List D} : z8 cfg S objs nxt 9 args = z6 S objs nxt 9 args := ck cfn9 rfl
theorem lck10 {S : Sm} {objs : List (Nat × Ob)} {nxt : Nat} {args : List D} : z8 cfg S objs nxt 10 args = z6 S objs nxt 10 args := ck cfn10 rfl
theorem lck11 {S : Sm} {objs : List (Nat × Ob)} {nxt : Nat} {args : List D} : z8 cfg S objs nxt 11 args = z6 S objs nxt 11 args := ck cfn11 rfl
theorem lck12 {S : Sm} {objs : List (Nat × Ob)} {nxt : Nat} {args : List D} : z8 cfg S objs nxt 12 args = z6 S objs nxt 12 args := ck cfn12 rfl
theorem lck13 {S : Sm} {objs : List (Nat × Ob)} {nxt : Nat} {args : List D} : z8 cfg S objs nxt 13 args = z6 S objs nxt 13 args := ck cfn13 rfl
theorem lck14 {S : Sm} {objs : List (Nat × Ob)} {nxt : Nat} {args : List D} : z8 cfg S objs nxt 14 args = z6 S objs nxt 14 args := ck cfn14 rfl
theorem lck15 {S : Sm} {objs : List (Nat × Ob)} {nxt : Nat} {args : List D} : z8 cfg S objs nxt 15 args = z6 S objs nxt 15 args := ck cfn15 rfl
theorem lck16 {S : Sm} {objs : List (Nat × Ob)} {nxt : Nat} {args : List D} : z8 cfg S objs nxt 16 args = z6 S objs nxt 16 args := ck cfn16 rfl
theorem lck17 {S : Sm} {objs : List (Nat × Ob)} {nxt : Nat} {args : List D} : z8 cfg S objs nxt 17 args = z6 S objs nxt 17 args := ck cfn17 rfl
theorem lck18 {S : Sm} {objs : List (Nat × Ob)} {nxt : Nat} {args : List D} : z8 cfg S objs nxt 18 args = z6 S objs nxt 18 args := ck cfn18 rfl
theorem lck19 {S : Sm} {objs : List (Nat × Ob)} {nxt : Nat} {args : List D} : z8 cfg S objs nxt 19 args = z6 S objs nxt 19 args := ck cfn19 rfl
theorem lck20 {S : Sm} {objs : List (Nat × Ob)} {nxt : Nat} {args : List D} : z8 cfg S objs nxt 20 args = z6 S objs nxt 20 args := ck cfn20 rfl
theorem lck21 {S : Sm} {objs : List (Nat × Ob)} {nxt : Nat} {args : List D} : z8 cfg S objs nxt 21 args = z6 S objs nxt 21 args := ck cfn21 rfl
theorem lck22 {S : Sm} {objs : List (Nat × Ob)} {nxt : Nat} {args : List D} : z8 cfg S objs nxt 22 args = z6 S objs nxt 22 args := ck cfn22 rfl
theorem lck23 {S : Sm} {objs : List (Nat × Ob)} {nxt : Nat} {args : List D} : z8 cfg S objs nxt 23 args = z6 S objs nxt 23 args := ck cfn23 rfl
theorem lck24 {S : Sm} {objs : List (Nat × Ob)} {nxt : Nat} {args : List D} : z8 cfg S objs nxt 24 args = z6 S objs nxt 24 args := ck cfn24 rfl
theorem lck25 {S : Sm} {objs : List (Nat × Ob)} {nxt : Nat} {args : List D} : z8 cfg S objs nxt 25 args = z6 S objs nxt 25 args := ck cfn25 rfl
theorem lck26 {S : Sm} {objs : List (Nat × Ob)} {nxt : Nat} {args : List D} : z8 cfg S objs nxt 26 args = z6 S objs nxt 26 args := ck cfn26 rfl
theorem lck27 {S : Sm} {objs : List (Nat × Ob)} {nxt : Nat} {args : List D} : z8 cfg S objs nxt 27 args = z6 S objs nxt 27 args := ck cfn27 rfl
theorem lck28 {S : Sm} {objs : List (Nat × Ob)} {nxt : Nat} {args : List D} : z8 cfg S objs nxt 28 args = z6 S objs nxt 28 args := ck cfn28 rfl
theorem lck29 {S : Sm} {objs : List (Nat × Ob)} {nxt : Nat} {args : List D} : z8 cfg S objs nxt 29 args = z6 S objs nxt 29 args := ck cfn29 rfl
theorem lck30 {S : Sm} {objs : List (Nat × Ob)} {nxt : Nat} {args : List D} : z8 cfg S objs nxt 30 args = z6 S objs nxt 30 args := ck cfn30 rfl
theorem lck31 {S : Sm} {objs : List (Nat × Ob)} {nxt : Nat} {args : List D} : z8 cfg S objs nxt 31 args = z6 S objs nxt 31 args := ck cfn31 rfl
theorem lck32 {S : Sm} {objs : List (Nat × Ob)} {nxt : Nat} {args : List D} : z8 cfg S objs nxt 32 args = z6 S objs nxt 32 args := ck cfn32 rfl
theorem lck33 {S : Sm} {objs : List (Nat × Ob)} {nxt : Nat} {args : List D} : z8 cfg S objs nxt 33 args = z6 S objs nxt 33 args := ck cfn33 rfl
theorem lck34 {S : Sm} {objs : List (Nat × Ob)} {nxt : Nat} {args : List D} : z8 cfg S objs nxt 34 args = z6 S objs nxt 34 args := ck cfn34 rfl
theorem lck35 {S : Sm} {objs : List (Nat × Ob)} {nxt : Nat} {args : List D} : z8 cfg S objs nxt 35 args = z6 S objs nxt 35 args := ck cfn35 rfl
theorem lck37 {S : Sm} {objs : List (Nat × Ob)} {nxt : Nat} {args : List D} : z8 cfg S objs nxt 37 args = z6 S objs nxt 37 args := ck cfn37 rfl
theorem lck39 {S : Sm} {objs : List (Nat × Ob)} {nxt : Nat} {args : List D} : z8 cfg S objs nxt 39 args = z6 S objs nxt 39 args := ck cfn39 rfl
theorem lck40 {S : Sm} {objs : List (Nat × Ob)} {nxt : Nat} {args : List D} : z8 cfg S objs nxt 40 args = z6 S objs nxt 40 args := ck cfn40 rfl
theorem lck41 {S : Sm} {objs : List (Nat × Ob)} {nxt : Nat} {args : List D} : z8 cfg S objs nxt 41 args = z6 S objs nxt 41 args := ck cfn41 rfl
theorem lck42 {S : Sm} {objs : List (Nat × Ob)} {nxt : Nat} {args : List D} : z8 cfg S objs nxt 42 args = z6 S objs nxt 42 args := ck cfn42 rfl
theorem lck45 {S : Sm} {objs : List (Nat × Ob)} {nxt : Nat} {args : List D} : z8 cfg S objs nxt 45 args = z6 S objs nxt 45 args := ck cfn45 rfl
theorem lck46 {S : Sm} {objs : List (Nat × Ob)} {nxt : Nat} {args : List D} : z8 cfg S objs nxt 46 args = z6 S objs nxt 46 args := ck cfn46 rfl
theorem lck47 {S : Sm} {objs : List (Nat × Ob)} {nxt : Nat} {args : List D} : z8 cfg S objs nxt 47 args = z6 S objs nxt 47 args := ck cfn47 rfl
theorem lck48 {S : Sm} {objs : List (Nat × Ob)} {nxt : Nat} {args : List D} : z8 cfg S objs nxt 48 args = z6 S objs nxt 48 args := ck cfn48 rfl
theorem lck49 {S : Sm} {objs : List (Nat × Ob)} {nxt : Nat} {args : List D} : z8 cfg S objs nxt 49 args = z6 S objs nxt 49 args := ck cfn49 rfl
theorem lck50 {S : Sm} {objs : List (Nat × Ob)} {nxt : Nat} {args : List D} : z8 cfg S objs nxt 50 args = z6 S objs nxt 50 args := ck cfn50 rfl
theorem lck51 {S : Sm} {objs : List (Nat × Ob)} {nxt : Nat} {args : List D} : z8 cfg S objs nxt 51 args = z6 S objs nxt 51 args := ck cfn51 rfl
theorem lck52 {S : Sm} {objs : List (Nat × Ob)} {nxt : Nat} {args : List D} : z8 cfg S objs nxt 52 args = z6 S objs nxt 52 args := ck cfn52 rfl
theorem lck53 {S : Sm} {objs : List (Nat × Ob)} {nxt : Nat} {args : List D} : z8 cfg S objs nxt 53 args = z6 S objs nxt 53 args := ck cfn53 rfl
theorem lck54 {S : Sm} {objs : List (Nat × Ob)} {nxt : Nat} {args : List D} : z8 cfg S objs nxt 54 args = z6 S objs nxt 54 args := ck cfn54 rfl
theorem lck55 {S : Sm} {objs : List (Nat × Ob)} {nxt : Nat} {args : List D} : z8 cfg S objs nxt 55 args = z6 S objs nxt 55 args := ck cfn55 rfl
theorem lck56 {S : Sm} {objs : List (Nat × Ob)} {nxt : Nat} {args : List D} : z8 cfg S objs nxt 56 args = z6 S objs nxt 56 args := ck cfn56 rfl
theorem lck57 {S : Sm} {objs : List (Nat × Ob)} {nxt : Nat} {args : List D} : z8 cfg S objs nxt 57 args = z6 S objs nxt 57 args := ck cfn57 rfl
theorem lck58 {S : Sm} {objs : List (Nat × Ob)} {nxt : Nat} {args : List D} : z8 cfg S objs nxt 58 args = z6 S objs nxt 58 args := ck cfn58 rfl
theorem lck59 {S : Sm} {objs : List (Nat × Ob)} {nxt : Nat} {args : List D} : z8 cfg S objs nxt 59 args = z6 S objs nxt 59 args := ck cfn59 rfl
theorem lck65 {S : Sm} {objs : List (Nat × Ob)} {nxt : Nat} {args : List D} : z8 cfg S objs nxt 65 args = z6 S objs nxt 65 args := ck cfn65 rfl
theorem lck66 {S : Sm} {objs : List (Nat × Ob)} {nxt : Nat} {args : List D} : z8 cfg S objs nxt 66 args = z6 S objs nxt 66 args := ck cfn66 rfl
theorem lck67 {S : Sm} {objs : List (Nat × Ob)} {nxt : Nat} {args : List D} : z8 cfg S objs nxt 67 args = z6 S objs nxt 67 args := ck cfn67 rfl
theorem lck68 {S : Sm} {objs : List (Nat × Ob)} {nxt : Nat} {args : List D} : z8 cfg S objs nxt 68 args = z6 S objs nxt 68 args := ck cfn68 rfl
theorem lck71 {S : Sm} {objs : List (Nat × Ob)} {nxt : Nat} {args : List D} : z8 cfg S objs nxt 71 args = z6 S objs nxt 71 args := ck cfn71 rfl
theorem lck73 {S : Sm} {objs : List (Nat × Ob)} {nxt : Nat} {args : List D} : z8 cfg S objs nxt 73 args = z6 S objs nxt 73 args := ck cfn73 rfl
theorem lck74 {S : Sm} {objs : List (Nat × Ob)} {nxt : Nat} {args : List D} : z8 cfg S objs nxt 74 args = z6 S objs nxt 74 args := ck cfn74 rfl
theorem lck75 {S : Sm} {objs : List (Nat × Ob)} {nxt : Nat} {args : List D} : z8 cfg S objs nxt 75 args = z6 S objs nxt 75 args := ck cfn75 rfl
theorem lck76 {S : Sm} {objs : List (Nat × Ob)} {nxt : Nat} {args : List D} : z8 cfg S objs nxt 76 args = z6 S objs nxt 76 args := ck cfn76 rfl
theorem lck77 {S : Sm} {objs : List (Nat × Ob)} {nxt : Nat} {args : List D} : z8 cfg S objs nxt 77 args = z6 S objs nxt 77 args := ck cfn77 rfl
theorem lck78 {S : Sm} {objs : List (Nat × Ob)} {nxt : Nat} {args : List D} : z8 cfg S objs nxt 78 args = z6 S objs nxt 78 args := ck cfn78 rfl
theorem lck79 {S : Sm} {objs : List (Nat × Ob)} {nxt : Nat} {args : List D} : z8 cfg S objs nxt 79 args = z6 S objs nxt 79 args := ck cfn79 rfl
theorem lck80 {S : Sm} {objs : List (Nat × Ob)} {nxt : Nat} {args : List D} : z8 cfg S objs nxt 80 args = z6 S objs nxt 80 args := ck cfn80 rfl
theorem lck81 {S : Sm} {objs : List (Nat × Ob)} {nxt : Nat} {args : List D} : z8 cfg S objs nxt 81 args = z6 S objs nxt 81 args := ck cfn81 rfl
theorem lck83 {S : Sm} {objs : List (Nat × Ob)} {nxt : Nat} {args : List D} : z8 cfg S objs nxt 83 args = z6 S objs nxt 83 args := ck cfn83 rfl
theorem lck84 {S : Sm} {objs : List (Nat × Ob)} {nxt : Nat} {args : List D} : z8 cfg S objs nxt 84 args = z6 S objs nxt 84 args := ck cfn84 rfl
theorem lck85 {S : Sm} {objs : List (Nat × Ob)} {nxt : Nat} {args : List D} : z8 cfg S objs nxt 85 args = z6 S objs nxt 85 args := ck cfn85 rfl
theorem lck86 {S : Sm} {objs : List (Nat × Ob)} {nxt : Nat} {args : List D} : z8 cfg S objs nxt 86 args = z6 S objs nxt 86 args := ck cfn86 rfl
theorem lck88 {S : Sm} {objs : List (Nat × Ob)} {nxt : Nat} {args : List D} : z8 cfg S objs nxt 88 args = z6 S objs nxt 88 args := ck cfn88 rfl
theorem lck89 {S : Sm} {objs : List (Nat × Ob)} {nxt : Nat} {args : List D} : z8 cfg S objs nxt 89 args = z6 S objs nxt 89 args := ck cfn89 rfl
theorem lck90 {S : Sm} {objs : List (Nat × Ob)} {nxt : Nat} {args : List D} : z8 cfg S objs nxt 90 args = z6 S objs nxt 90 args := ck cfn90 rfl
theorem lck91 {S : Sm} {objs : List (Nat × Ob)} {nxt : Nat} {args : List D} : z8 cfg S objs nxt 91 args = z6 S objs nxt 91 args := ck cfn91 rfl
theorem lck92 {S : Sm} {objs : List (Nat × Ob)} {nxt : Nat} {args : List D} : z8 cfg S objs nxt 92 args = z6 S objs nxt 92 args := ck cfn92 rfl
theorem lck93 {S : Sm} {objs : List (Nat × Ob)} {nxt : Nat} {args : List D} : z8 cfg S objs nxt 93 args = z6 S objs nxt 93 args := ck cfn93 rfl
theorem lck94 {S : Sm} {objs : List (Nat × Ob)} {nxt : Nat} {args : List D} : z8 cfg S objs nxt 94 args = z6 S objs nxt 94 args := ck cfn94 rfl
theorem lck95 {S : Sm} {objs : List (Nat × Ob)} {nxt : Nat} {args : List D} : z8 cfg S objs nxt 95 args = z6 S objs nxt 95 args := ck cfn95 rfl
theorem lck97 {S : Sm} {objs : List (Nat × Ob)} {nxt : Nat} {args : List D} : z8 cfg S objs nxt 97 args = z6 S objs nxt 97 args := ck cfn97 rfl
theorem lck98 {S : Sm} {objs : List (Nat × Ob)} {nxt : Nat} {args : List D} : z8 cfg S objs nxt 98 args = z6 S objs nxt 98 args := ck cfn98 rfl
theorem lck99 {S : Sm} {objs : List (Nat × Ob)} {nxt : Nat} {args : List D} : z8 cfg S objs nxt 99 args = z6 S objs nxt 99 args := ck cfn99 rfl
theorem lck100 {S : Sm} {objs : List (Nat × Ob)} {nxt : Nat} {args : List D} : z8 cfg S objs nxt 100 args = z6 S objs nxt 100 args := ck cfn100 rfl
theorem lck101 {S : Sm} {objs : List (Nat × Ob)} {nxt : Nat} {args : List D} : z8 cfg S objs nxt 101 args = z6 S objs nxt 101 args := ck cfn101 rfl
theorem lck102 {S : Sm} {objs : List (Nat × Ob)} {nxt : Nat} {args : List D} : z8 cfg S objs nxt 102 args = z6 S objs nxt 102 args := ck cfn102 rfl
theorem lck104 {S : Sm} {objs : List (Nat × Ob)} {nxt : Nat} {args : List D} : z8 cfg S objs nxt 104 args = z6 S objs nxt 104 args := ck cfn104 rfl
theorem lck105 {S : Sm} {objs : List (Nat × Ob)} {nxt : Nat} {args : List D} : z8 cfg S objs nxt 105 args = z6 S objs nxt 105 args := ck cfn105 rfl
theorem lck106 {S : Sm} {objs : List (Nat × Ob)} {nxt : Nat} {args : List D} : z8 cfg S objs nxt 106 args = z6 S objs nxt 106 args := ck cfn106 rfl
theorem lck107 {S : Sm} {objs : List (Nat × Ob)} {nxt : Nat} {args : List D} : z8 cfg S objs nxt 107 args = z6 S objs nxt 107 args := ck cfn107 rfl
theorem lck109 {S : Sm} {objs : List (Nat × Ob)} {nxt : Nat} {args : List D} : z8 cfg S objs nxt 109 args = z6 S objs nxt 109 args := ck cfn109 rfl
theorem lck113 {S : Sm} {objs : List (Nat × Ob)} {nxt : Nat} {args : List D} : z8 cfg S objs nxt 113 args = z6 S objs nxt 113 args := ck cfn113 rfl
theorem lck114 {S : Sm} {objs : List (Nat × Ob)} {nxt : Nat} {args : List D} : z8 cfg S objs nxt 114 args = z6 S objs nxt 114 args := ck cfn114 rfl
theorem lck115 {S : Sm} {objs : List (Nat × Ob)} {nxt : Nat} {args : List D} : z8 cfg S objs nxt 115 args = z6 S objs nxt 115 args := ck cfn115 rfl
theorem lck116 {S : Sm} {objs : List (Nat × Ob)} {nxt : Nat} {args : List D} : z8 cfg S objs nxt 116 args = z6 S objs nxt 116 args := ck cfn116 rfl
theorem lck118 {S : Sm} {objs : List (Nat × Ob)} {nxt : Nat} {args : List D} : z8 cfg S objs nxt 118 args = z6 S objs nxt 118 args := ck cfn118 rfl
theorem lck119 {S : Sm} {objs : List (Nat × Ob)} {nxt : Nat} {args : List D} : z8 cfg S objs nxt 119 args = z6 S objs nxt 119 args := ck cfn119 rfl
theorem lck120 {S : Sm} {objs : List (Nat × Ob)} {nxt : Nat} {args : List D} : z8 cfg S objs nxt 120 args = z6 S objs nxt 120 args := ck cfn120 rfl
theorem lck123 {S : Sm} {objs : List (Nat × Ob)} {nxt : Nat} {args : List D} : z8 cfg S objs nxt 123 args = z6 S objs nxt 123 args := ck cfn123 rfl
theorem lck124 {S : Sm} {objs : List (Nat × Ob)} {nxt : Nat} {args : List D} : z8 cfg S objs nxt 124 args = z6 S objs nxt 124 args := ck cfn124 rfl
theorem lck125 {S : Sm} {objs : List (Nat × Ob)} {nxt : Nat} {args : List D} : z8 cfg S objs nxt 125 args = z6 S objs nxt 125 args := ck cfn125 rfl
theorem lck126 {S : Sm} {objs : List (Nat × Ob)} {nxt : Nat} {args : List D} : z8 cfg S objs nxt 126 args = z6 S objs nxt 126 args := ck cfn126 rfl
theorem lck127 {S : Sm} {objs : List (Nat × Ob)} {nxt : Nat} {args : List D} : z8 cfg S objs nxt 127 args = z6 S objs nxt 127 args := ck cfn127 rfl
theorem lck128 {S : Sm} {objs : List (Nat × Ob)} {nxt : Nat} {args : List D} : z8 cfg S objs nxt 128 args = z6 S objs nxt 128 args := ck cfn128 rfl
theorem lck129 {S : Sm} {objs : List (Nat × Ob)} {nxt : Nat} {args : List D} : z8 cfg S objs nxt 129 args = z6 S objs nxt 129 args := ck cfn129 rfl
theorem lck130 {S : Sm} {objs : List (Nat × Ob)} {nxt : Nat} {args : List D} : z8 cfg S objs nxt 130 args = z6 S objs nxt 130 args := ck cfn130 rfl
theorem lck131 {S : Sm} {objs : List (Nat × Ob)} {nxt : Nat} {args : List D} : z8 cfg S objs nxt 131 args = z6 S objs nxt 131 args := ck cfn131 rfl
theorem lck140 {S : Sm} {objs : List (Nat × Ob)} {nxt : Nat} {args : List D} : z8 cfg S objs nxt 140 args = z6 S objs nxt 140 args := ck cfn140 rfl
theorem lck141 {S : Sm} {objs : List (Nat × Ob)} {nxt : Nat} {args : List D} : z8 cfg S objs nxt 141 args = z6 S objs nxt 141 args := ck cfn141 rfl
theorem lck142 {S : Sm} {objs : List (Nat × Ob)} {nxt : Nat} {args : List D} : z8 cfg S objs nxt 142 args = z6 S objs nxt 142 args := ck cfn142 rfl
theorem lck143 {S : Sm} {objs : List (Nat × Ob)} {nxt : Nat} {args : List D} : z8 cfg S objs nxt 143 args = z6 S objs nxt 143 args := ck cfn143 rfl
theorem lck148 {S : Sm} {objs : List (Nat × Ob)} {nxt : Nat} {args : List D} : z8 cfg S objs nxt 148 args = z6 S objs nxt 148 args := ck cfn148 rfl
theorem lck149 {S : Sm} {objs : List (Nat × Ob)} {nxt : Nat} {args : List D} : z8 cfg S objs nxt 149 args = z6 S objs nxt 149 args := ck cfn149 rfl
theorem lck151 {S : Sm} {objs : List (Nat × Ob)} {nxt : Nat} {args : List D} : z8 cfg S objs nxt 151 args = z6 S objs nxt 151 args := ck cfn151 rfl
theorem lck153 {S : Sm} {objs : List (Nat × Ob)} {nxt : Nat} {args : List D} : z8 cfg S objs nxt 153 args = z6 S objs nxt 153 args := ck cfn153 rfl
theorem lck154 {S : Sm} {objs : List (Nat × Ob)} {nxt : Nat} {args : List D} : z8 cfg S objs nxt 154 args = z6 S objs nxt 154 args := ck cfn154 rfl
theorem lck155 {S : Sm} {objs : List (Nat × Ob)} {nxt : Nat} {args : List D} : z8 cfg S objs nxt 155 args = z6 S objs nxt 155 args := ck cfn155 rfl
theorem lck156 {S : Sm} {objs : List (Nat × Ob)} {nxt : Nat} {args : List D} : z8 cfg S objs nxt 156 args = z6 S objs nxt 156 args := ck cfn156 rfl
theorem lck157 {S : Sm} {objs : List (Nat × Ob)} {nxt : Nat} {args : List D} : z8 cfg S objs nxt 157 args = z6 S objs nxt 157 args := ck cfn157 rfl
theorem lck159 {S : Sm} {objs : List (Nat × Ob)} {nxt : Nat} {args : List D} : z8 cfg S objs nxt 159 args = z6 S objs nxt 159 args := ck cfn159 rfl
theorem lck163 {S : Sm} {objs : List (Nat × Ob)} {nxt : Nat} {args : List D} : z8 cfg S objs nxt 163 args = z6 S objs nxt 163 args := ck cfn163 rfl
theorem lck164 {S : Sm} {objs : List (Nat × Ob)} {nxt : Nat} {args : List D} : z8 cfg S objs nxt 164 args = z6 S objs nxt 164 args := ck cfn164 rfl
theorem lck165 {S : Sm} {objs : List (Nat × Ob)} {nxt : Nat} {args : List D} : z8 cfg S objs nxt 165 args = z6 S objs nxt 165 args := ck cfn165 rfl
theorem lck166 {S : Sm} {objs : List (Nat × Ob)} {nxt : Nat} {args : List D} : z8 cfg S objs nxt 166 args = z6 S objs nxt 166 args := ck cfn166 rfl
theorem lck167 {S : Sm} {objs : List (Nat × Ob)} {nxt : Nat} {args : List D} : z8 cfg S objs nxt 167 args = z6 S objs nxt 167 args := ck cfn167 rfl
theorem lck169 {S : Sm} {objs : List (Nat × Ob)} {nxt : Nat} {args : List D} : z8 cfg S objs nxt 169 args = z6 S objs nxt 169 args := ck cfn169 rfl
theorem lck170 {S : Sm} {objs : List (Nat × Ob)} {nxt : Nat} {args : List D} : z8 cfg S objs nxt 170 args = z6 S objs nxt 170 args := ck cfn170 rfl
theorem lck171 {S : Sm} {objs : List (Nat × Ob)} {nxt : Nat} {args : List D} : z8 cfg S objs nxt 171 args = z6 S objs nxt 171 args := ck cfn171 rfl
theorem lck173 {S : Sm} {objs : List (Nat × Ob)} {nxt : Nat} {args : List D} : z8 cfg S objs nxt 173 args = z6 S objs nxt 173 args := ck cfn173 rfl
theorem lck174 {S : Sm} {objs : List (Nat × Ob)} {nxt : Nat} {args : List D} : z8 cfg S objs nxt 174 args = z6 S objs nxt 174 args := ck cfn174 rfl
theorem lck204 {S : Sm} {objs : List (Nat × Ob)} {nxt : Nat} {args : List D} : z8 cfg S objs nxt 204 args = z6 S objs nxt 204 args := ck cfn204 rfl
set_option linter.defProp false
def cks := (And.intro (And.intro (And.intro (And.intro (And.intro (And.intro (And.intro @lck2 @lck3) (And.intro @lck4 @lck5)) (And.intro (And.intro @lck6 @lck7) (And.intro @lck8 @lck9))) (And.intro (And.intro (And.intro @lck10 @lck11) (And.intro @lck12 @lck13)) (And.intro (And.intro @lck14 @lck15) (And.intro @lck16 @lck17)))) (And.intro (And.intro (And.intro (And.intro @lck18 @lck19) (And.intro @lck20 @lck21)) (And.intro (And.intro @lck22 @lck23) (And.intro @lck24 @lck25))) (And.intro (And.intro (And.intro @lck26 @lck27) (And.intro @lck28 @lck29)) (And.intro (And.intro @lck30 @lck31) (And.intro @lck32 @lck33))))) (And.intro (And.intro (And.intro (And.intro (And.intro @lck34 @lck35) (And.intro @lck37 @lck39)) (And.intro (And.intro @lck40 @lck41) (And.intro @lck42 @lck45))) (And.intro (And.intro (And.intro @lck46 @lck47) (And.intro @lck48 @lck49)) (And.intro (And.intro @lck50 @lck51) (And.intro @lck52 @lck53)))) (And.intro (And.intro (And.intro (And.intro @lck54 @lck55) (And.intro @lck56 @lck57)) (And.intro (And.intro @lck58 @lck59) (And.intro @lck65 @lck66))) (And.intro (And.intro (And.intro @lck67 @lck68) (And.intro @lck71 @lck73)) (And.intro (And.intro @lck74 @lck75) (And.intro @lck76 (And.intro @lck77 @lck78))))))) (And.intro (And.intro (And.intro (And.intro (And.intro (And.intro @lck79 @lck80) (And.intro @lck81 @lck83)) (And.intro (And.intro @lck84 @lck85) (And.intro @lck86 @lck88))) (And.intro (And.intro (And.intro @lck89 @lck90) (And.intro @lck91 @lck92)) (And.intro (And.intro @lck93 @lck94) (And.intro @lck95 @lck97)))) (And.intro (And.intro (And.intro (And.intro @lck98 @lck99) (And.intro @lck100 @lck101)) (And.intro (And.intro @lck102 @lck104) (And.intro @lck105 @lck106))) (And.intro (And.intro (And.intro @lck107 @lck109) (And.intro @lck113 @lck114)) (And.intro (And.intro @lck115 @lck116) (And.intro @lck118 (And.intro @lck119 @lck120)))))) (And.intro (And.intro (And.intro (And.intro (And.intro @lck123 @lck124) (And.intro @lck125 @lck126)) (And.intro (And.intro @lck127 @lck128) (And.intro @lck129 @lck130))) (And.intro (And.intro (And.intro @lck131 @lck140) (And.intro @lck141 @lck142)) (And.intro (And.intro @lck143 @lck148) (And.intro @lck149 @lck151)))) (And.intro (And.intro (And.intro (And.intro @lck153 @lck154) (And.intro @lck155 @lck156)) (And.intro (And.intro @lck157 @lck159) (And.intro @lck163 @lck164))) (And.intro (And.intro (And.intro @lck165 @lck166) (And.intro @lck167 @lck169)) (And.intro (And.intro @lck170 @lck171) (And.intro @lck173 (And.intro @lck174 @lck204))))))))
attribute [go_sem] tys cks cfg_ty cfg_eqok zs_false
theorem extOK : ExtOK cfg where
  pure := fun K g args d h => by cases h
  inl := fun K g args objs nxt d objs' nxt' h => by cases h
end Go.VS.F0

/-
  VS, part V7: append of rows that are not spelt out. (A text of this claim's own; nothing of it is trusted.)
-/
namespace Go.VS
open Go
section
variable {α : Type} {f : α → VS.D} {te : Ty} {gO : Nat → Option Ob} {nxt o o2 sz : Nat} {fz : Bool}
theorem map_emp {l : List α} (h : l.isEmpty = false) : (l.map f).isEmpty = false := by cases l with | nil => cases h | cons a b => rfl
theorem emp_pos {l : List α} (h : l.isEmpty = false) : 0 < l.length := by cases l with | nil => cases h | cons a b => simp
theorem elems_deep (s : GS α) (he : s.l.isEmpty = false) : elemsD gO (GS.D f sz s) = Option.some (s.l.map f, sz, []) := by
  have hn : s.nl = false := nonnil (ne_of_empty he)
  unfold GS.D
  rw [hn]
  simp [elemsD, zsl]
theorem app_new {x : VS.D} {rx : List Nat} {l : List α} {els0 : List VS.D} {sz0 : Nat} {cap0 : Option Nat} (EO : EncOK sz f) (hx : elemsD gO x = Option.some (l.map f, sz, rx)) (he : l.isEmpty = false) (h3 : te.size = sz) (h4 : zeroOk te = true) (h5 : 0 < te.size) (hb : l.length * te.bytes ≤ big ∧ l.length ≤ big) :
    appendE te gO nxt (.sl true els0 sz0 cap0) x = Option.some ⟨.lsl nxt 0 l.length sz none, [(nxt, Option.some ⟨l.map f, sz, false⟩)], rx, nxt + 1⟩ := by
  have e3 : allOk sz (List.map f l) = true := EO.allOk l
  have h5' : 0 < sz := h3 ▸ h5
  have hemp := map_emp (f := f) he
  simp [appendE, hx, hemp, h3, e3, h4, h5', appSl, newRow, hb.1, hb.2, newOb]
theorem app_more {x : VS.D} {rx : List Nat} {v l : List α} (EO : EncOK sz f) (hx : elemsD gO x = Option.some (l.map f, sz, rx)) (he : l.isEmpty = false) (h1 : gO o = Option.some ⟨v.map f, sz, false⟩) (h3 : te.size = sz) (h4 : zeroOk te = true) (h5 : 0 < te.size)
    (hb : (v.length + l.length) * te.bytes ≤ big ∧ v.length + l.length ≤ big) :
    appendE te gO nxt (.lsl o 0 v.length sz none) x = Option.some ⟨.lsl nxt 0 (v ++ l).length sz none, [(o, none), (nxt, Option.some ⟨(v ++ l).map f, sz, false⟩)], o :: rx, nxt + 1⟩ := by
  have e3 : allOk sz (List.map f l) = true := EO.allOk l
  have e5 : allOk sz (List.map f v) = true := EO.allOk v
  have h5' : 0 < sz := h3 ▸ h5
  have hemp := map_emp (f := f) he
  have hpos := emp_pos he
  have e4 : List.take v.length (List.map f v) = List.map f v := by rw [List.take_of_length_le]; simp
  have e6 : ¬ v.length + l.length ≤ v.length := by omega
  simp [appendE, hx, hemp, h3, e3, h4, h5', h1, appLsl, hb.1, hb.2, e4, e5, e6]
theorem app_newD {els0 : List VS.D} {sz0 : Nat} {cap0 : Option Nat} (EO : EncOK sz f) (s : GS α) (he : s.l.isEmpty = false) (h3 : te.size = sz) (h4 : zeroOk te = true) (h5 : 0 < te.size) (hb : s.l.length * te.bytes ≤ big ∧ s.l.length ≤ big) :
    appendE te gO nxt (.sl true els0 sz0 cap0) (GS.D f sz s) = Option.some ⟨.lsl nxt 0 s.l.length sz none, [(nxt, Option.some ⟨s.l.map f, sz, false⟩)], [], nxt + 1⟩ := app_new EO (elems_deep s he) he h3 h4 h5 hb
theorem app_moreD {v : List α} (EO : EncOK sz f) (s : GS α) (he : s.l.isEmpty = false) (h1 : gO o = Option.some ⟨v.map f, sz, false⟩) (h3 : te.size = sz) (h4 : zeroOk te = true) (h5 : 0 < te.size) (hb : (v.length + s.l.length) * te.bytes ≤ big ∧ v.length + s.l.length ≤ big) :
    appendE te gO nxt (.lsl o 0 v.length sz none) (GS.D f sz s) = Option.some ⟨.lsl nxt 0 (v ++ s.l).length sz none, [(o, none), (nxt, Option.some ⟨(v ++ s.l).map f, sz, false⟩)], [o], nxt + 1⟩ := app_more EO (elems_deep s he) he h1 h3 h4 h5 hb
end
end Go.VS

namespace Go.VS.F0
open Go Go.Proofs
set_option maxHeartbeats 0
set_option linter.unusedSimpArgs false
set_option linter.unusedVariables false
def cmp_isNaN (a0 : Int) : Bool :=
  bif (a0 != a0) then
    true
  else
    false

theorem T_cmp_isNaN (a0 : Int) : (lim cfg).pure 119 [I a0] = some (B (cmp_isNaN a0)) := by
  unfold cmp_isNaN
  cases h1 : (a0 != a0) with
  | true =>
    have g1 := bne_true h1
    exact ze [.dec true] (And.intro h1 trivial) (by kernel_rfl)
  | false =>
    have g1 := bne_false h1
    exact ze [.dec false] (And.intro h1 trivial) (by kernel_rfl)

def cmp_Compare (x : Int) (y : Int) : Int :=
  bif (cmp_isNaN x) then
    bif (cmp_isNaN y) then
      0
    else
      (-1)
  else
    bif (cmp_isNaN y) then
      1
    else
      bif decide (x < y) then
        (-1)
      else
        bif decide (x > y) then
          1
        else
          0

theorem T_cmp_Compare (x : Int) (y : Int) : (lim cfg).pure 105 [I x, I y] = some (I (cmp_Compare x y)) := by
  unfold cmp_Compare
  cases h1 : (cmp_isNaN x) with
  | true =>
    cases h2 : (cmp_isNaN y) with
    | true =>
      exact ze [.pure (B (cmp_isNaN x)), .dec true, .pure (B (cmp_isNaN y)), .dec true] (And.intro h2 (And.intro (T_cmp_isNaN y) (And.intro h1 (And.intro (T_cmp_isNaN x) trivial)))) (by kernel_rfl)
    | false =>
      exact ze [.pure (B (cmp_isNaN x)), .dec true, .pure (B (cmp_isNaN y)), .dec false] (And.intro h2 (And.intro (T_cmp_isNaN y) (And.intro h1 (And.intro (T_cmp_isNaN x) trivial)))) (by kernel_rfl)
  | false =>
    cases h3 : (cmp_isNaN y) with
    | true =>
      exact ze [.pure (B (cmp_isNaN x)), .dec false, .pure (B (cmp_isNaN y)), .dec true] (And.intro h3 (And.intro (T_cmp_isNaN y) (And.intro h1 (And.intro (T_cmp_isNaN x) trivial)))) (by kernel_rfl)
    | false =>
      cases h4 : decide (x < y) with
      | true =>
        have g4 := of_decide_eq_true h4
        exact ze [.pure (B (cmp_isNaN x)), .dec false, .pure (B (cmp_isNaN y)), .dec false, .dec true] (And.intro h4 (And.intro h3 (And.intro (T_cmp_isNaN y) (And.intro h1 (And.intro (T_cmp_isNaN x) trivial))))) (by kernel_rfl)
      | false =>
        have g4 := of_decide_eq_false h4
        cases h5 : decide (x > y) with
        | true =>
          have g5 := of_decide_eq_true h5
          exact ze [.pure (B (cmp_isNaN x)), .dec false, .pure (B (cmp_isNaN y)), .dec false, .dec false, .dec true] (And.intro h5 (And.intro h4 (And.intro h3 (And.intro (T_cmp_isNaN y) (And.intro h1 (And.intro (T_cmp_isNaN x) trivial)))))) (by kernel_rfl)
        | false =>
          have g5 := of_decide_eq_false h5
          exact ze [.pure (B (cmp_isNaN x)), .dec false, .pure (B (cmp_isNaN y)), .dec false, .dec false, .dec false] (And.intro h5 (And.intro h4 (And.intro h3 (And.intro (T_cmp_isNaN y) (And.intro h1 (And.intro (T_cmp_isNaN x) trivial)))))) (by kernel_rfl)

def ranges_gathered_1 (x : S_Span) (y : S_Span) : Int :=
  (cmp_Compare x.lo y.lo)

theorem T_ranges_gathered_1 (x : S_Span) (y : S_Span) : (lim cfg).pure 104 [S_Span.D x, S_Span.D y] = some (I (ranges_gathered_1 x y)) := by
  unfold ranges_gathered_1
  exact ze [.pure (I (cmp_Compare x.lo y.lo))] (And.intro (T_cmp_Compare x.lo y.lo) trivial) (by kernel_rfl)
end Go.VS.F0

/-
  DERIVED: THE SHELF's CONTRACTS AT THIS DUMP, IN PLAIN WORDS (tools/lay-plain.mjs out of 'RShelf.lean', which tools/lay-shelf.mjs wrote): THE SAME DECLARATIONS UNDER THE SAME NAMES: 'import', 'namespace', 'open', 'def', 'theorem' AND NOTHING ELSE: no command of the shelf's: FOR A HAND-IN. Each laying: the table of numbers ('.._ren') and one theorem, a field a fact of the dump's own or the kernel's comparison; each contract: ONE APPLICATION.
-/
namespace Go.Proofs
open Go.Shelf
def Tryz.lays156_ren : Go.Shelf.Ren := ⟨fun | 156 => 99 | 165 => 110 | 166 => 111 | 169 => 112 | 240 => 121 | 241 => 122 | 276 => 146 | 277 => 147 | n => n, fun | 31 => 91 | 9 => 9 | 3 => 3 | 4 => 4 | 0 => 0 | 20 => 20 | 72 => 111 | 76 => 99 | 70 => 108 | 37 => 109 | 75 => 98 | 127 => 120 | 164 => 145 | 5 => 5 | 80 => 113 | n => n, fun | n => n⟩
theorem Tryz.lays156 : Go.Proofs.Lays.n156 Tryz.prog Tryz.lays156_ren := {
  mixed := by kernel_rfl
  f156 := Tryz.func99.trans (congrArg some (by kernel_rfl))
  f165 := Tryz.func110.trans (congrArg some (by kernel_rfl))
  f166 := Tryz.func111.trans (congrArg some (by kernel_rfl))
  f169 := Tryz.func112.trans (congrArg some (by kernel_rfl))
  f240 := Tryz.func121.trans (congrArg some (by kernel_rfl))
  f241 := Tryz.func122.trans (congrArg some (by kernel_rfl))
  f276 := Tryz.func146.trans (congrArg some (by kernel_rfl))
  f277 := Tryz.func147.trans (congrArg some (by kernel_rfl))
  t0 := Tryz.underlying0
  a0 := Tryz.isAgg0
  z0 := Tryz.sizeOf0
  v0 := Tryz.zeroValue0
  t3 := Tryz.underlying3
  a3 := Tryz.isAgg3
  z3 := Tryz.sizeOf3
  v3 := Tryz.zeroValue3
  t4 := Tryz.underlying4
  a4 := Tryz.isAgg4
  z4 := Tryz.sizeOf4
  v4 := Tryz.zeroValue4
  t9 := Tryz.underlying9
  a9 := Tryz.isAgg9
  z9 := Tryz.sizeOf9
  v9 := Tryz.zeroValue9
  t20 := Tryz.underlying20
  a20 := Tryz.isAgg20
  z20 := Tryz.sizeOf20
  v20 := Tryz.zeroValue20
  t31 := Tryz.underlying91
  a31 := Tryz.isAgg91
  z31 := Tryz.sizeOf91
  v31 := Tryz.zeroValue91
  t37 := Tryz.underlying109
  a37 := Tryz.isAgg109
  z37 := Tryz.sizeOf109
  v37 := Tryz.zeroValue109
  t70 := Tryz.underlying108
  a70 := Tryz.isAgg108
  z70 := Tryz.sizeOf108
  v70 := Tryz.zeroValue108
  t72 := Tryz.underlying111
  a72 := Tryz.isAgg111
  z72 := Tryz.sizeOf111
  v72 := Tryz.zeroValue111
  t75 := Tryz.underlying98
  a75 := Tryz.isAgg98
  z75 := Tryz.sizeOf98
  v75 := Tryz.zeroValue98
  t76 := Tryz.underlying99
  a76 := Tryz.isAgg99
  z76 := Tryz.sizeOf99
  v76 := Tryz.zeroValue99
  t127 := Tryz.underlying120
  a127 := Tryz.isAgg120
  z127 := Tryz.sizeOf120
  v127 := Tryz.zeroValue120
  t164 := Tryz.underlying145
  a164 := Tryz.isAgg145
  z164 := Tryz.sizeOf145
  v164 := Tryz.zeroValue145 }
theorem Tryz.Builder_Extra_156 : Builder.Extra Tryz.prog Tryz.lays156_ren := {
  sizeBuilder := by kernel_rfl
  liesBuilder := by kernel_rfl
  t5 := Tryz.underlying5
  a5 := Tryz.isAgg5
  z5 := Tryz.sizeOf5
  v5 := Tryz.zeroValue5
  infoByte := by kernel_rfl
  cellsByte := by kernel_rfl
  sizeByte := by kernel_rfl
  neB5 := by decide }
open Go.RowKit in
open Go.RowKit in
/-- strings.Join: "Join concatenates the elements of its first argument to create a single string. The separator string sep is placed between elements in the resulting string.": HOWEVER MANY ELEMENTS. Below the heap's end the world is as it was. (LAID: no walk: one application.) -/
theorem Tryz.strings_Join (bk o c : Nat) (xs : List ByteArray) (sep : ByteArray) (w : World) (hcells : ∀ (j : Nat) x, xs[j]? = some x → w.cell? ⟨bk, o + j, none⟩ = some (.string x)) (hbk : bk < w.heap.size) (hN : xs.length ≤ 140737488355328) (hcap : xs.length ≤ c) (hlen : (Lib.join (xs.map (·.data.toList)) sep.data.toList).length ≤ 140737488355328) :
    Calls Tryz.prog 99 #[.slice (some ⟨bk, o, none⟩) xs.length c, .string sep] w fun e w' => e = .returned (.string ⟨(Lib.join (xs.map (·.data.toList)) sep.data.toList).toArray⟩) ∧ Below w.heap.size w w' := Any.strings_Join Tryz.lays156 Tryz.Builder_Extra_156 bk o c xs sep w hcells hbk hN hcap hlen
def Tryz.laysM171_ren : Go.Shelf.Ren := ⟨fun | 171 => 98 | 243 => 109 | 246 => 120 | 283 => 142 | 284 => 143 | 285 => 144 | 286 => 145 | 129 => 141 | 317 => 163 | 318 => 164 | 319 => 165 | 320 => 166 | 337 => 173 | 338 => 174 | n => n, fun | 3 => 3 | 9 => 9 | 2 => 2 | 4 => 4 | 171 => 141 | 0 => 0 | 53 => 140 | 37 => 109 | 5 => 5 | 173 => 143 | 212 => 166 | 51 => 138 | 20 => 20 | 213 => 167 | 46 => 118 | 232 => 182 | 233 => 183 | n => n, fun | 17 => 3 | 18 => 6 | 19 => 7 | n => n⟩
theorem Tryz.laysM171 : Go.Proofs.LaysM.n171 Tryz.prog Tryz.laysM171_ren := {
  mixed := by kernel_rfl
  f129 := Tryz.func141.trans (congrArg some (by kernel_rfl))
  f171 := Tryz.func98.trans (congrArg some (by kernel_rfl))
  f243 := Tryz.func109.trans (congrArg some (by kernel_rfl))
  f246 := Tryz.func120.trans (congrArg some (by kernel_rfl))
  f283 := Tryz.func142.trans (congrArg some (by kernel_rfl))
  f284 := Tryz.func143.trans (congrArg some (by kernel_rfl))
  f285 := Tryz.func144.trans (congrArg some (by kernel_rfl))
  f286 := Tryz.func145.trans (congrArg some (by kernel_rfl))
  f317 := Tryz.func163.trans (congrArg some (by kernel_rfl))
  f318 := Tryz.func164.trans (congrArg some (by kernel_rfl))
  f319 := Tryz.func165.trans (congrArg some (by kernel_rfl))
  f320 := Tryz.func166.trans (congrArg some (by kernel_rfl))
  f337 := Tryz.func173.trans (congrArg some (by kernel_rfl))
  f338 := Tryz.func174.trans (congrArg some (by kernel_rfl))
  t0 := Tryz.underlying0
  a0 := Tryz.isAgg0
  z0 := Tryz.sizeOf0
  v0 := Tryz.zeroValue0
  t2 := Tryz.underlying2
  a2 := Tryz.isAgg2
  z2 := Tryz.sizeOf2
  v2 := Tryz.zeroValue2
  t3 := Tryz.underlying3
  a3 := Tryz.isAgg3
  z3 := Tryz.sizeOf3
  v3 := Tryz.zeroValue3
  t4 := Tryz.underlying4
  a4 := Tryz.isAgg4
  z4 := Tryz.sizeOf4
  v4 := Tryz.zeroValue4
  t5 := Tryz.underlying5
  a5 := Tryz.isAgg5
  z5 := Tryz.sizeOf5
  v5 := Tryz.zeroValue5
  t9 := Tryz.underlying9
  a9 := Tryz.isAgg9
  z9 := Tryz.sizeOf9
  v9 := Tryz.zeroValue9
  t20 := Tryz.underlying20
  a20 := Tryz.isAgg20
  z20 := Tryz.sizeOf20
  v20 := Tryz.zeroValue20
  t37 := Tryz.underlying109
  a37 := Tryz.isAgg109
  z37 := Tryz.sizeOf109
  v37 := Tryz.zeroValue109
  t46 := Tryz.underlying118
  a46 := Tryz.isAgg118
  z46 := Tryz.sizeOf118
  v46 := Tryz.zeroValue118
  t51 := Tryz.underlying138
  a51 := Tryz.isAgg138
  z51 := Tryz.sizeOf138
  v51 := Tryz.zeroValue138
  t53 := Tryz.underlying140
  a53 := Tryz.isAgg140
  z53 := Tryz.sizeOf140
  v53 := Tryz.zeroValue140
  t171 := Tryz.underlying141
  a171 := Tryz.isAgg141
  z171 := Tryz.sizeOf141
  v171 := Tryz.zeroValue141
  t173 := Tryz.underlying143
  a173 := Tryz.isAgg143
  z173 := Tryz.sizeOf143
  v173 := Tryz.zeroValue143
  t212 := Tryz.underlying166
  a212 := Tryz.isAgg166
  z212 := Tryz.sizeOf166
  v212 := Tryz.zeroValue166
  t213 := Tryz.underlying167
  a213 := Tryz.isAgg167
  z213 := Tryz.sizeOf167
  t232 := Tryz.underlying182
  a232 := Tryz.isAgg182
  z232 := Tryz.sizeOf182
  v232 := Tryz.zeroValue182
  t233 := Tryz.underlying183
  a233 := Tryz.isAgg183
  z233 := Tryz.sizeOf183
  v233 := Tryz.zeroValue183
  g17 := by kernel_rfl
  g18 := by kernel_rfl
  g19 := by kernel_rfl
  i0 := by kernel_rfl
  i2 := by kernel_rfl
  i3 := by kernel_rfl
  i4 := by kernel_rfl
  i5 := by kernel_rfl
  i9 := by kernel_rfl
  i20 := by kernel_rfl
  i37 := by kernel_rfl
  i46 := by kernel_rfl
  i51 := by kernel_rfl
  i53 := by kernel_rfl
  i171 := by kernel_rfl
  i173 := by kernel_rfl
  i212 := by kernel_rfl
  i232 := by kernel_rfl
  i233 := by kernel_rfl
  m17 := by kernel_rfl
  m18 := by kernel_rfl
  m19 := by kernel_rfl }
open Go.RowKit Go.Sort Go.Lib in
/-- strconv.Itoa: "Itoa is equivalent to FormatInt(int64(i), 10).": i's DECIMAL NUMERAL ('Lib.itoa': a '-' where i is negative, then the digits), FOR EVERY int. The world behind the call: the world before it, new blocks behind the heap (the library's 'var a [24]byte'), draws. (LAID: no walk: one application.) -/
theorem Tryz.strconv_Itoa (n : Int) (h0 : -9223372036854775808 ≤ n) (h1 : n ≤ 9223372036854775807) (w : World) (htab : Lib.TabIs Tryz.prog w "internal/strconv.uint64pow10" .u64 Lib.pow10Tab) :
    Calls Tryz.prog 98 #[.int .i64 n] w fun e w' => e = .returned (.string ⟨(Lib.itoa n).toArray⟩) ∧ ∃ k os, w' = grow (w.drewN k) os := Any.strconv_Itoa Tryz.laysM171 n h0 h1 w htab
def Tryz.sortP_ren : Go.Shelf.Ren := ⟨fun | 6 => 103 | 15 => 118 | 14 => 117 | 28 => 140 | 29 => 141 | 20 => 132 | 21 => 133 | 22 => 134 | 23 => 135 | 24 => 136 | 25 => 137 | 26 => 138 | 27 => 139 | 46 => 158 | 47 => 159 | 48 => 160 | 49 => 161 | 50 => 162 | 57 => 172 | n => n, fun | 22 => 22 | 24 => 25 | 25 => 102 | 3 => 3 | 39 => 118 | 0 => 0 | 53 => 138 | 55 => 140 | 4 => 4 | 46 => 131 | 45 => 130 | 50 => 135 | 5 => 5 | 9 => 9 | 66 => 159 | 70 => 163 | 76 => 175 | 77 => 176 | n => n, fun | n => n⟩
theorem Tryz.sortP : Go.Proofs.SlLaysF0.n6 Tryz.prog Tryz.sortP_ren := {
  mixed := by kernel_rfl
  f6 := ⟨Tryz.f103.name, by decide, Tryz.func103.trans (congrArg some (by kernel_rfl))⟩
  f14 := ⟨Tryz.f117.name, by decide, Tryz.func117.trans (congrArg some (by kernel_rfl))⟩
  f15 := Tryz.func118.trans (congrArg some (by kernel_rfl))
  f20 := ⟨Tryz.f132.name, by decide, Tryz.func132.trans (congrArg some (by kernel_rfl))⟩
  f21 := ⟨Tryz.f133.name, by decide, Tryz.func133.trans (congrArg some (by kernel_rfl))⟩
  f22 := ⟨Tryz.f134.name, by decide, Tryz.func134.trans (congrArg some (by kernel_rfl))⟩
  f23 := ⟨Tryz.f135.name, by decide, Tryz.func135.trans (congrArg some (by kernel_rfl))⟩
  f24 := ⟨Tryz.f136.name, by decide, Tryz.func136.trans (congrArg some (by kernel_rfl))⟩
  f25 := ⟨Tryz.f137.name, by decide, Tryz.func137.trans (congrArg some (by kernel_rfl))⟩
  f26 := ⟨Tryz.f138.name, by decide, Tryz.func138.trans (congrArg some (by kernel_rfl))⟩
  f27 := ⟨Tryz.f139.name, by decide, Tryz.func139.trans (congrArg some (by kernel_rfl))⟩
  f28 := Tryz.func140.trans (congrArg some (by kernel_rfl))
  f29 := Tryz.func141.trans (congrArg some (by kernel_rfl))
  f46 := ⟨Tryz.f158.name, by decide, Tryz.func158.trans (congrArg some (by kernel_rfl))⟩
  f47 := Tryz.func159.trans (congrArg some (by kernel_rfl))
  f48 := Tryz.func160.trans (congrArg some (by kernel_rfl))
  f49 := ⟨Tryz.f161.name, by decide, Tryz.func161.trans (congrArg some (by kernel_rfl))⟩
  f50 := ⟨Tryz.f162.name, by decide, Tryz.func162.trans (congrArg some (by kernel_rfl))⟩
  f57 := ⟨Tryz.f172.name, by decide, Tryz.func172.trans (congrArg some (by kernel_rfl))⟩
  t0 := Tryz.underlying0
  a0 := Tryz.isAgg0
  z0 := Tryz.sizeOf0
  v0 := Tryz.zeroValue0
  t3 := Tryz.underlying3
  a3 := Tryz.isAgg3
  z3 := Tryz.sizeOf3
  v3 := Tryz.zeroValue3
  t4 := Tryz.underlying4
  a4 := Tryz.isAgg4
  z4 := Tryz.sizeOf4
  v4 := Tryz.zeroValue4
  t5 := Tryz.underlying5
  a5 := Tryz.isAgg5
  z5 := Tryz.sizeOf5
  v5 := Tryz.zeroValue5
  t9 := Tryz.underlying9
  a9 := Tryz.isAgg9
  z9 := Tryz.sizeOf9
  v9 := Tryz.zeroValue9
  t22 := Tryz.underlying22
  a22 := Tryz.isAgg22
  z22 := Tryz.sizeOf22
  v22 := Tryz.zeroValue22
  t25 := Tryz.underlying102
  a25 := Tryz.isAgg102
  z25 := Tryz.sizeOf102
  v25 := Tryz.zeroValue102
  t39 := Tryz.underlying118
  a39 := Tryz.isAgg118
  z39 := Tryz.sizeOf118
  v39 := Tryz.zeroValue118
  t45 := Tryz.underlying130
  a45 := Tryz.isAgg130
  z45 := Tryz.sizeOf130
  v45 := Tryz.zeroValue130
  t46 := Tryz.underlying131
  a46 := Tryz.isAgg131
  z46 := Tryz.sizeOf131
  v46 := Tryz.zeroValue131
  t50 := Tryz.underlying135
  a50 := Tryz.isAgg135
  z50 := Tryz.sizeOf135
  v50 := Tryz.zeroValue135
  t53 := Tryz.underlying138
  a53 := Tryz.isAgg138
  z53 := Tryz.sizeOf138
  v53 := Tryz.zeroValue138
  t55 := Tryz.underlying140
  a55 := Tryz.isAgg140
  z55 := Tryz.sizeOf140
  v55 := Tryz.zeroValue140
  t66 := Tryz.underlying159
  a66 := Tryz.isAgg159
  z66 := Tryz.sizeOf159
  v66 := Tryz.zeroValue159
  t70 := Tryz.underlying163
  a70 := Tryz.isAgg163
  z70 := Tryz.sizeOf163
  v70 := Tryz.zeroValue163
  t76 := Tryz.underlying175
  a76 := Tryz.isAgg175
  z76 := Tryz.sizeOf175
  v76 := Tryz.zeroValue175
  t77 := Tryz.underlying176
  a77 := Tryz.isAgg176
  z77 := Tryz.sizeOf176
  v77 := Tryz.zeroValue176 }
end Go.Proofs

/-
  VS, part S5: strconv.Itoa and strings.Join, told by the shelf's contracts. (A text of this claim's own; nothing of it is trusted.)
-/
namespace Go.VS
open Go Go.RowKit Go.Proofs Go.Sort Go.Shelf
section
variable {C : Cfg}
theorem mok_keep {M : Mem} {w w' : World} (h : MOK M w) (hk : ∀ b, b < w.heap.size → w'.heap[b]? = w.heap[b]?) : MOK M w' := fun b i v hv => by
  have h1 := h b i v hv
  have hb := World.block_lt_of_cell? w _ h1
  unfold World.cell? at h1 ⊢
  rw [hk b hb]; exact h1
/-- A call that is handed nothing of the caller's own, and answers nothing. -/
theorem inl_of_pure {K : FuncId} {args : List D} (h : PureOK C K args (.tup [])) (hn : ∀ (M : Mem) (m : Loc) (vs : List Value), zn M m args vs → zn M noLoc args vs) (nxt : Nat) : InlOK C K args [] nxt (.tup []) [] nxt := fun E M m w vs hR hG hA hf ho => by
  refine (h M w vs hR.mok hG hR.tab (hn M m _ hA)).mono ?_
  rintro e w' ⟨v, M', rfl, _, _, k3, k4, k5, k6, k7, k8, _⟩
  refine ⟨v, M, m, rfl, MLe.refl _, fun _ _ => rfl, fun x h1 h2 => hf x h2, ?_, ?_⟩
  · simp only [Rep] at k3 ⊢
    obtain ⟨xs, rfl, hx⟩ := k3
    exact ⟨xs, rfl, hx⟩
  · exact ⟨⟨k4.1.trans hR.os.1, fun q => Nat.le_trans (hR.os.2 q) (k4.2 q)⟩, k5.trans hR.tape, k6.trans hR.output, Nat.le_trans hR.size k7, fun b hb => (k8 b (Nat.lt_of_lt_of_le (hR.frlt b hb) hR.size)).trans (hR.keep b hb), hR.frlt, hR.mfr, mok_keep hR.mok k8,
      ⟨fun o ob h => by simp [zj] at h, fun o ob h => by simp [zj] at h, fun o o' ob ob' b s s' h => by simp [zj] at h, fun o ob b s h => by simp [zj] at h⟩⟩
theorem pure_string (hd : C.dr = false) {K : FuncId} {args : List D} {s : ByteArray} (h : ∀ (M : Mem) (w : World) (vs : Array Value), MOK M w → TabOK C w → zn M noLoc args vs.toList →
    Calls C.P K vs w fun e w' => e = .returned (.string s) ∧ Below w.heap.size w w') : PureOK C K args (.val (.string s)) := fun M w vs h1 _ h3 h4 => by
  refine (h M w vs h1 h3 h4).mono ?_
  rintro e w' ⟨rfl, k⟩
  exact ⟨_, M, rfl, MLe.refl _, mok_keep h1 k.block, by simp only [Rep], ⟨k.os, fun q => by rw [hd] at q; cases q⟩, k.tape, k.output, k.size, k.block, fun _ _ _ => rfl⟩
def unS : D → Option ByteArray
  | .val v => match v with
    | .string s => some s
    | _ => none
  | _ => none
def unSs : List D → Option (List ByteArray)
  | [] => some []
  | d :: ds => match unS d, unSs ds with
    | some x, some l => some (x :: l)
    | _, _ => none
theorem unS_eq {d : D} {s : ByteArray} (h : unS d = some s) : d = .val (.string s) := by
  unfold unS at h
  split at h
  · split at h
    · cases h; rfl
    · cases h
  · cases h
theorem unSs_eq : ∀ {ds : List D} {l : List ByteArray}, unSs ds = some l → ds = l.map fun s => .val (.string s)
  | [], l, h => by simp [unSs] at h; subst h; rfl
  | d :: ds, l, h => by
    unfold unSs at h
    split at h
    · rename_i e1 e2; cases h; rw [unS_eq e1, unSs_eq e2]; rfl
    · cases h
/-- What strings.Join answers. -/
def joinX (args : List D) : Option D := match args with
  | [.sl nl els sz _, d] => match unS d, unSs els with
    | some sep, some xs => if nl = false ∧ sz = 1 ∧ xs ≠ [] ∧ xs.length ≤ 140737488355328 ∧ (Lib.join (xs.map (·.data.toList)) sep.data.toList).length ≤ 140737488355328 then
        some (.val (.string ⟨(Lib.join (xs.map (·.data.toList)) sep.data.toList).toArray⟩)) else none
    | _, _ => none
  | _ => none
theorem repE_cells {M : Mem} {w : World} (hM : MOK M w) : ∀ (xs : List ByteArray) (b o : Nat), RepE M (xs.map fun s => D.val (.string s)) 1 b o → ∀ (j : Nat) x, xs[j]? = some x → w.cell? ⟨b, o + j, none⟩ = some (.string x)
  | [], _, _, _, j, x, hx => by simp at hx
  | s :: xs, b, o, h, j, x, hx => by
    simp only [List.map_cons, RepE, Rep] at h
    obtain ⟨⟨u, rfl, _, hm⟩, h2⟩ := h
    cases j with
    | zero =>
      simp at hx; subst hx
      have := hm 0 (.string s) (by simp [Value.cells])
      exact hM _ _ _ this
    | succ j =>
      have := repE_cells hM xs b (o + 1) h2 j x (by simpa using hx)
      rw [show o + (j + 1) = o + 1 + j from by omega]; exact this
theorem joinX_ok (hd : C.dr = false) {K : FuncId} (hJ : ∀ (bk o c : Nat) (xs : List ByteArray) (sep : ByteArray) (w : World), (∀ (j : Nat) x, xs[j]? = some x → w.cell? ⟨bk, o + j, none⟩ = some (.string x)) → bk < w.heap.size → xs.length ≤ 140737488355328 → xs.length ≤ c → (Lib.join (xs.map (·.data.toList)) sep.data.toList).length ≤ 140737488355328 →
    Calls C.P K #[.slice (some ⟨bk, o, none⟩) xs.length c, .string sep] w fun e w' => e = .returned (.string ⟨(Lib.join (xs.map (·.data.toList)) sep.data.toList).toArray⟩) ∧ Below w.heap.size w w')
    {args : List D} {d : D} (h : joinX args = some d) : PureOK C K args d := by
  unfold joinX at h
  split at h
  · rename_i nl els sz cap d0
    split at h
    · rename_i sep xs e1 e2
      split at h
      · rename_i hc
        obtain ⟨rfl, rfl, hne, hl, hlen⟩ := hc
        cases h
        rw [unS_eq e1, unSs_eq e2]
        refine pure_string hd fun M w vs h1 _ h3 => ?_
        simp only [zn, Rep] at h3
        obtain ⟨v, r, e0, ⟨_, hs⟩, v2, r2, rfl, rfl, rfl⟩ := h3
        obtain ⟨b, o, sp, c, rfl, hsp, hc1, _, _, hcell⟩ := hs trivial
        have hsp' : sp = none := hsp (by simpa using hne)
        subst hsp'
        have hvs : vs = #[.slice (some ⟨b, o, none⟩) xs.length c, .string sep] := by
          cases vs
          simp only [] at e0
          subst e0
          simp
        rw [hvs]
        have hcells := repE_cells h1 xs b o hcell
        refine hJ b o c xs sep w hcells ?_ hl (by simpa using hc1) hlen
        cases xs with
        | nil => exact absurd rfl hne
        | cons x xs => exact World.block_lt_of_cell? w _ (hcells 0 x rfl)
      · cases h
    · cases h
  · cases h
/-- What strconv.Itoa answers. -/
def itoaX (args : List D) : Option D := match args with
  | [d] => match unI d with
    | some n => if -9223372036854775808 ≤ n ∧ n ≤ 9223372036854775807 then some (.val (.string ⟨(Lib.itoa n).toArray⟩)) else none
    | none => none
  | _ => none
theorem itoaX_ok (hd : C.dr = false) {K g : FuncId} {name : String} {cs : Array Value} (hg : C.P.globalNamed name = some g) (ht : C.tab g = some cs)
    (hI : ∀ (n : Int), -9223372036854775808 ≤ n → n ≤ 9223372036854775807 → ∀ w : World, w.var? C.P name = some cs → Calls C.P K #[.int .i64 n] w fun e w' => e = .returned (.string ⟨(Lib.itoa n).toArray⟩) ∧ ∃ k os, w' = grow (w.drewN k) os)
    {args : List D} {d : D} (h : itoaX args = some d) : PureOK C K args d := by
  unfold itoaX at h
  split at h
  · split at h
    · rename_i n e1
      split at h
      · rename_i hc
        cases h
        rw [unI_eq e1]
        refine pure_string hd fun M w vs h1 h2 h3 => ?_
        simp only [zn, Rep, I] at h3
        obtain ⟨v, r, e0, rfl, rfl⟩ := h3
        have hvs : vs = #[.int .i64 n] := by
          cases vs
          simp only [] at e0
          subst e0
          simp
        rw [hvs]
        obtain ⟨t, fr, hh⟩ := h2 g cs ht
        refine (hI n hc.1 hc.2 w (by simp only [World.var?, hg, Option.bind_some, hh])).mono ?_
        rintro e w' ⟨rfl, k, os, rfl⟩
        refine ⟨rfl, ⟨rfl, rfl, rfl, ?_, fun b hb => ?_⟩⟩
        · simp [grow, World.drewN]
        · exact grow_heap (w.drewN k) os hb
      · cases h
    · cases h
  · cases h
end
end Go.VS

namespace Go.VS.F1
open Go Go.Proofs Go.RowKit Go.Shelf Go.Sort
def powTab : Array Value := #[.int .u64 1, .int .u64 10, .int .u64 100, .int .u64 1000, .int .u64 10000, .int .u64 100000, .int .u64 1000000, .int .u64 10000000, .int .u64 100000000, .int .u64 1000000000, .int .u64 10000000000, .int .u64 100000000000, .int .u64 1000000000000, .int .u64 10000000000000, .int .u64 100000000000000, .int .u64 1000000000000000, .int .u64 10000000000000000, .int .u64 100000000000000000, .int .u64 1000000000000000000, .int .u64 10000000000000000000]
theorem powTab_is : powTab = (Lib.pow10Tab.map fun z => Value.int .u64 z).toArray := by kernel_rfl
noncomputable def gPow : Nat := (Tryz.prog.globalNamed "internal/strconv.uint64pow10").getD 0
theorem gPow_is : Tryz.prog.globalNamed "internal/strconv.uint64pow10" = some gPow := by kernel_rfl
noncomputable def cfg : Cfg := { P := Tryz.prog, fn := zh.find, ty := zo.find, keep := find2 keepTab, inl := fun K => memN K [36, 38, 43, 44, 60, 61, 62, 63, 64, 69, 70, 72, 82, 87, 96, 103, 108, 110, 111, 112, 117, 121, 122, 132, 133, 134, 135, 136, 137, 138, 139, 144, 145, 146, 147, 158, 160, 161, 162, 172, 190], ext := fun K => bif eqb K 98 then some itoaX else bif eqb K 99 then some joinX else none, xinl := fun _ => none, glob := fun _ => none, eqok := fun t => (eqTab.find t).isSome, dr := false, tab := fun g => bif eqb g gPow then some powTab else none }
theorem cfg_fn : cfg.fn = zh.find := rfl
theorem cfg_ty : cfg.ty = zo.find := rfl
theorem cfg_eqok (t : TypeId) : cfg.eqok t = (eqTab.find t).isSome := rfl
theorem cfgOK : CfgOK cfg where
  ty := fun _ _ h => tyTab_ok.find h
  fn := fun _ _ h => fnTab_ok.find h
  enter := fun _ _ h => enTab_ok.find h
  mixed := by kernel_rfl
  eqok := fun t h => by
    have h1 : (eqTab.find t).isSome = true := h
    cases hf : eqTab.find t with
    | none => rw [hf] at h1; cases h1
    | some u =>
      have := eqTab_ok.find hf
      unfold eqB at this
      simp only [Bool.and_eq_true, Bool.not_eq_true'] at this
      refine ⟨this.1.1, this.1.2, fun fs hfs f hm => ?_⟩
      have h2 := this.2
      have hfs' : Tryz.prog.underlying t = some (.struct fs) := hfs
      rw [hfs'] at h2
      simp only [List.all_eq_true, bne_iff_ne] at h2
      exact h2 f hm
theorem globOK {M : Mem} : zD cfg M := fun g d h => by cases h
theorem ck {S : Sm} {objs : List (Nat × Ob)} {nxt K : Nat} {args : List D} {fn : Func} (h : zh.find K = some fn) (hi : memN K [36, 38, 43, 44, 60, 61, 62, 63, 64, 69, 70, 72, 82, 87, 96, 103, 108, 110, 111, 112, 117, 121, 122, 132, 133, 134, 135, 136, 137, 138, 139, 144, 145, 146, 147, 158, 160, 161, 162, 172, 190] = false) : z8 cfg S objs nxt K args = z6 S objs nxt K args := by
  simp only [z8, cfg_fn, h]
  rw [show cfg.inl K = memN K [36, 38, 43, 44, 60, 61, 62, 63, 64, 69, 70, 72, 82, 87, 96, 103, 108, 110, 111, 112, 117, 121, 122, 132, 133, 134, 135, 136, 137, 138, 139, 144, 145, 146, 147, 158, 160, 161, 162, 172, 190] from rfl, hi]
  rfl
theorem lck2 {S : Sm} {objs : List (Nat × Ob)} {nxt : Nat} {args : List D} : z8 cfg S objs nxt 2 args = z6 S objs nxt 2 args := ck cfn2 rfl
theorem lck3 {S : Sm} {objs : List (Nat × Ob)} {nxt : Nat} {args : List D} : z8 cfg S objs nxt 3 args = z6 S objs nxt 3 args := ck cfn3 rfl
theorem lck4 {S : Sm} {objs : List (Nat × Ob)} {nxt : Nat} {args : List D} : z8 cfg S objs nxt 4 args = z6 S objs nxt 4 args := ck cfn4 rfl
theorem lck5 {S : Sm} {objs : List (Nat × Ob)} {nxt : Nat} {args : List D} : z8 cfg S objs nxt 5 args = z6 S objs nxt 5 args := ck cfn5 rfl
theorem lck6 {S : Sm} {objs : List (Nat × Ob)} {nxt : Nat} {args : List D} : z8 cfg S objs nxt 6 args = z6 S objs nxt 6 args := ck cfn6 rfl
theorem lck7 {S : Sm} {objs : List (Nat × Ob)} {nxt : Nat} {args : List D} : z8 cfg S objs nxt 7 args = z6 S objs nxt 7 args := ck cfn7 rfl
theorem lck8 {S : Sm} {objs : List (Nat × Ob)} {nxt : Nat} {args : List D} : z8 cfg S objs nxt 8 args = z6 S objs nxt 8 args := ck cfn8 rfl
theorem lck9 {S : Sm} {objs : List (Nat × Ob)} {nxt : Nat} {args : List D} : z8 cfg S objs nxt 9 args = z6 S objs nxt 9 args := ck cfn9 rfl
theorem lck10 {S : Sm} {objs : List (Nat × Ob)} {nxt : Nat} {args : List D} : z8 cfg S objs nxt 10 args = z6 S objs nxt 10 args := ck cfn10 rfl
theorem lck11 {S : Sm} {objs : List (Nat × Ob)} {nxt : Nat} {args : List D} : z8 cfg S objs nxt 11 args = z6 S objs nxt 11 args := ck cfn11 rfl
theorem lck12 {S : Sm} {objs : List (Nat × Ob)} {nxt : Nat} {args : List D} : z8 cfg S objs nxt 12 args = z6 S objs nxt 12 args := ck cfn12 rfl
theorem lck13 {S : Sm} {objs : List (Nat × Ob)} {nxt : Nat} {args : List D} : z8 cfg S objs nxt 13 args = z6 S objs nxt 13 args := ck cfn13 rfl
theorem lck14 {S : Sm} {objs : List (Nat × Ob)} {nxt : Nat} {args : List D} : z8 cfg S objs nxt 14 args = z6 S objs nxt 14 args := ck cfn14 rfl
theorem lck15 {S : Sm} {objs : List (Nat × Ob)} {nxt : Nat} {args : List D} : z8 cfg S objs nxt 15 args = z6 S objs nxt 15 args := ck cfn15 rfl
theorem lck16 {S : Sm} {objs : List (Nat × Ob)} {nxt : Nat} {args : List D} : z8 cfg S objs nxt 16 args = z6 S objs nxt 16 args := ck cfn16 rfl
theorem lck17 {S : Sm} {objs : List (Nat × Ob)} {nxt : Nat} {args : List D} : z8 cfg S objs nxt 17 args = z6 S objs nxt 17 args := ck cfn17 rfl
theorem lck18 {S : Sm} {objs : List (Nat × Ob)} {nxt : Nat} {args : List D} : z8 cfg S objs nxt 18 args = z6 S objs nxt 18 args := ck cfn18 rfl
theorem lck19 {S : Sm} {objs : List (Nat × Ob)} {nxt : Nat} {args : List D} : z8 cfg S objs nxt 19 args = z6 S objs nxt 19 args := ck cfn19 rfl
theorem lck20 {S : Sm} {objs : List (Nat × Ob)} {nxt : Nat} {args : List D} : z8 cfg S objs nxt 20 args = z6 S objs nxt 20 args := ck cfn20 rfl
theorem lck21 {S : Sm} {objs : List (Nat × Ob)} {nxt : Nat} {args : List D} : z8 cfg S objs nxt 21 args = z6 S objs nxt 21 args := ck cfn21 rfl
theorem lck22 {S : Sm} {objs : List (Nat × Ob)} {nxt : Nat} {args : List D} : z8 cfg S objs nxt 22 args = z6 S objs nxt 22 args := ck cfn22 rfl
theorem lck23 {S : Sm} {objs : List (Nat × Ob)} {nxt : Nat} {args : List D} : z8 cfg S objs nxt 23 args = z6 S objs nxt 23 args := ck cfn23 rfl
theorem lck24 {S : Sm} {objs : List (Nat × Ob)} {nxt : Nat} {args : List D} : z8 cfg S objs nxt 24 args = z6 S objs nxt 24 args := ck cfn24 rfl
theorem lck25 {S : Sm} {objs : List (Nat × Ob)} {nxt : Nat} {args : List D} : z8 cfg S objs nxt 25 args = z6 S objs nxt 25 args := ck cfn25 rfl
theorem lck26 {S : Sm} {objs : List (Nat × Ob)} {nxt : Nat} {args : List D} : z8 cfg S objs nxt 26 args = z6 S objs nxt 26 args := ck cfn26 rfl
theorem lck27 {S : Sm} {objs : List (Nat × Ob)} {nxt : Nat} {args : List D} : z8 cfg S objs nxt 27 args = z6 S objs nxt 27 args := ck cfn27 rfl
theorem lck28 {S : Sm} {objs : List (Nat × Ob)} {nxt : Nat} {args : List D} : z8 cfg S objs nxt 28 args = z6 S objs nxt 28 args := ck cfn28 rfl
theorem lck29 {S : Sm} {objs : List (Nat × Ob)} {nxt : Nat} {args : List D} : z8 cfg S objs nxt 29 args = z6 S objs nxt 29 args := ck cfn29 rfl
theorem lck30 {S : Sm} {objs : List (Nat × Ob)} {nxt : Nat} {args : List D} : z8 cfg S objs nxt 30 args = z6 S objs nxt 30 args := ck cfn30 rfl
theorem lck31 {S : Sm} {objs : List (Nat × Ob)} {nxt : Nat} {args : List D} : z8 cfg S objs nxt 31 args = z6 S objs nxt 31 args := ck cfn31 rfl
theorem lck32 {S : Sm} {objs : List (Nat × Ob)} {nxt : Nat} {args : List D} : z8 cfg S objs nxt 32 args = z6 S objs nxt 32 args := ck cfn32 rfl
theorem lck33 {S : Sm} {objs : List (Nat × Ob)} {nxt : Nat} {args : List D} : z8 cfg S objs nxt 33 args = z6 S objs nxt 33 args := ck cfn33 rfl
theorem lck34 {S : Sm} {objs : List (Nat × Ob)} {nxt : Nat} {args : List D} : z8 cfg S objs nxt 34 args = z6 S objs nxt 34 args := ck cfn34 rfl
theorem lck35 {S : Sm} {objs : List (Nat × Ob)} {nxt : Nat} {args : List D} : z8 cfg S objs nxt 35 args = z6 S objs nxt 35 args := ck cfn35 rfl
theorem lck37 {S : Sm} {objs : List (Nat × Ob)} {nxt : Nat} {args : List D} : z8 cfg S objs nxt 37 args = z6 S objs nxt 37 args := ck cfn37 rfl
theorem lck39 {S : Sm} {objs : List (Nat × Ob)} {nxt : Nat} {args : List D} : z8 cfg S objs nxt 39 args = z6 S objs nxt 39 args := ck cfn39 rfl
theorem lck40 {S : Sm} {objs : List (Nat × Ob)} {nxt : Nat} {args : List D} : z8 cfg S objs nxt 40 args = z6 S objs nxt 40 args := ck cfn40 rfl
theorem lck41 {S : Sm} {objs : List (Nat × Ob)} {nxt : Nat} {args : List D} : z8 cfg S objs nxt 41 args = z6 S objs nxt 41 args := ck cfn41 rfl
theorem lck42 {S : Sm} {objs : List (Nat × Ob)} {nxt : Nat} {args : List D} : z8 cfg S objs nxt 42 args = z6 S objs nxt 42 args := ck cfn42 rfl
theorem lck45 {S : Sm} {objs : List (Nat × Ob)} {nxt : Nat} {args : List D} : z8 cfg S objs nxt 45 args = z6 S objs nxt 45 args := ck cfn45 rfl
theorem lck46 {S : Sm} {objs : List (Nat × Ob)} {nxt : Nat} {args : List D} : z8 cfg S objs nxt 46 args = z6 S objs nxt 46 args := ck cfn46 rfl
theorem lck47 {S : Sm} {objs : List (Nat × Ob)} {nxt : Nat} {args : List D} : z8 cfg S objs nxt 47 args = z6 S objs nxt 47 args := ck cfn47 rfl
theorem lck48 {S : Sm} {objs : List (Nat × Ob)} {nxt : Nat} {args : List D} : z8 cfg S objs nxt 48 args = z6 S objs nxt 48 args := ck cfn48 rfl
theorem lck49 {S : Sm} {objs : List (Nat × Ob)} {nxt : Nat} {args : List D} : z8 cfg S objs nxt 49 args = z6 S objs nxt 49 args := ck cfn49 rfl
theorem lck50 {S : Sm} {objs : List (Nat × Ob)} {nxt : Nat} {args : List D} : z8 cfg S objs nxt 50 args = z6 S objs nxt 50 args := ck cfn50 rfl
theorem lck51 {S : Sm} {objs : List (Nat × Ob)} {nxt : Nat} {args : List D} : z8 cfg S objs nxt 51 args = z6 S objs nxt 51 args := ck cfn51 rfl
theorem lck52 {S : Sm} {objs : List (Nat × Ob)} {nxt : Nat} {args : List D} : z8 cfg S objs nxt 52 args = z6 S objs nxt 52 args := ck cfn52 rfl
theorem lck53 {S : Sm} {objs : List (Nat × Ob)} {nxt : Nat} {args : List D} : z8 cfg S objs nxt 53 args = z6 S objs nxt 53 args := ck cfn53 rfl
theorem lck54 {S : Sm} {objs : List (Nat × Ob)} {nxt : Nat} {args : List D} : z8 cfg S objs nxt 54 args = z6 S objs nxt 54 args := ck cfn54 rfl
theorem lck55 {S : Sm} {objs : List (Nat × Ob)} {nxt : Nat} {args : List D} : z8 cfg S objs nxt 55 args = z6 S objs nxt 55 args := ck cfn55 rfl
theorem lck56 {S : Sm} {objs : List (Nat × Ob)} {nxt : Nat} {args : List D} : z8 cfg S objs nxt 56 args = z6 S objs nxt 56 args := ck cfn56 rfl
theorem lck57 {S : Sm} {objs : List (Nat × Ob)} {nxt : Nat} {args : List D} : z8 cfg S objs nxt 57 args = z6 S objs nxt 57 args := ck cfn57 rfl
theorem lck58 {S : Sm} {objs : List (Nat × Ob)} {nxt : Nat} {args : List D} : z8 cfg S objs nxt 58 args = z6 S objs nxt 58 args := ck cfn58 rfl
theorem lck59 {S : Sm} {objs : List (Nat × Ob)} {nxt : Nat} {args : List D} : z8 cfg S objs nxt 59 args = z6 S objs nxt 59 args := ck cfn59 rfl
theorem lck65 {S : Sm} {objs : List (Nat × Ob)} {nxt : Nat} {args : List D} : z8 cfg S objs nxt 65 args = z6 S objs nxt 65 args := ck cfn65 rfl
theorem lck66 {S : Sm} {objs : List (Nat × Ob)} {nxt : Nat} {args : List D} : z8 cfg S objs nxt 66 args = z6 S objs nxt 66 args := ck cfn66 rfl
theorem lck67 {S : Sm} {objs : List (Nat × Ob)} {nxt : Nat} {args : List D} : z8 cfg S objs nxt 67 args = z6 S objs nxt 67 args := ck cfn67 rfl
theorem lck68 {S : Sm} {objs : List (Nat × Ob)} {nxt : Nat} {args : List D} : z8 cfg S objs nxt 68 args = z6 S objs nxt 68 args := ck cfn68 rfl
theorem lck71 {S : Sm} {objs : List (Nat × Ob)} {nxt : Nat} {args : List D} : z8 cfg S objs nxt 71 args = z6 S objs nxt 71 args := ck cfn71 rfl
theorem lck73 {S : Sm} {objs : List (Nat × Ob)} {nxt : Nat} {args : List D} : z8 cfg S objs nxt 73 args = z6 S objs nxt 73 args := ck cfn73 rfl
theorem lck74 {S : Sm} {objs : List (Nat × Ob)} {nxt : Nat} {args : List D} : z8 cfg S objs nxt 74 args = z6 S objs nxt 74 args := ck cfn74 rfl
theorem lck75 {S : Sm} {objs : List (Nat × Ob)} {nxt : Nat} {args : List D} : z8 cfg S objs nxt 75 args = z6 S objs nxt 75 args := ck cfn75 rfl
theorem lck76 {S : Sm} {objs : List (Nat × Ob)} {nxt : Nat} {args : List D} : z8 cfg S objs nxt 76 args = z6 S objs nxt 76 args := ck cfn76 rfl
theorem lck77 {S : Sm} {objs : List (Nat × Ob)} {nxt : Nat} {args : List D} : z8 cfg S objs nxt 77 args = z6 S objs nxt 77 args := ck cfn77 rfl
theorem lck78 {S : Sm} {objs : List (Nat × Ob)} {nxt : Nat} {args : List D} : z8 cfg S objs nxt 78 args = z6 S objs nxt 78 args := ck cfn78 rfl
theorem lck79 {S : Sm} {objs : List (Nat × Ob)} {nxt : Nat} {args : List D} : z8 cfg S objs nxt 79 args = z6 S objs nxt 79 args := ck cfn79 rfl
theorem lck80 {S : Sm} {objs : List (Nat × Ob)} {nxt : Nat} {args : List D} : z8 cfg S objs nxt 80 args = z6 S objs nxt 80 args := ck cfn80 rfl
theorem lck81 {S : Sm} {objs : List (Nat × Ob)} {nxt : Nat} {args : List D} : z8 cfg S objs nxt 81 args = z6 S objs nxt 81 args := ck cfn81 rfl
theorem lck83 {S : Sm} {objs : List (Nat × Ob)} {nxt : Nat} {args : List D} : z8 cfg S objs nxt 83 args = z6 S objs nxt 83 args := ck cfn83 rfl
theorem lck84 {S : Sm} {objs : List (Nat × Ob)} {nxt : Nat} {args : List D} : z8 cfg S objs nxt 84 args = z6 S objs nxt 84 args := ck cfn84 rfl
theorem lck85 {S : Sm} {objs : List (Nat × Ob)} {nxt : Nat} {args : List D} : z8 cfg S objs nxt 85 args = z6 S objs nxt 85 args := ck cfn85 rfl
theorem lck86 {S : Sm} {objs : List (Nat × Ob)} {nxt : Nat} {args : List D} : z8 cfg S objs nxt 86 args = z6 S objs nxt 86 args := ck cfn86 rfl
theorem lck88 {S : Sm} {objs : List (Nat × Ob)} {nxt : Nat} {args : List D} : z8 cfg S objs nxt 88 args = z6 S objs nxt 88 args := ck cfn88 rfl
theorem lck89 {S : Sm} {objs : List (Nat × Ob)} {nxt : Nat} {args : List D} : z8 cfg S objs nxt 89 args = z6 S objs nxt 89 args := ck cfn89 rfl
theorem lck90 {S : Sm} {objs : List (Nat × Ob)} {nxt : Nat} {args : List D} : z8 cfg S objs nxt 90 args = z6 S objs nxt 90 args := ck cfn90 rfl
theorem lck91 {S : Sm} {objs : List (Nat × Ob)} {nxt : Nat} {args : List D} : z8 cfg S objs nxt 91 args = z6 S objs nxt 91 args := ck cfn91 rfl
theorem lck92 {S : Sm} {objs : List (Nat × Ob)} {nxt : Nat} {args : List D} : z8 cfg S objs nxt 92 args = z6 S objs nxt 92 args := ck cfn92 rfl
theorem lck93 {S : Sm} {objs : List (Nat × Ob)} {nxt : Nat} {args : List D} : z8 cfg S objs nxt 93 args = z6 S objs nxt 93 args := ck cfn93 rfl
theorem lck94 {S : Sm} {objs : List (Nat × Ob)} {nxt : Nat} {args : List D} : z8 cfg S objs nxt 94 args = z6 S objs nxt 94 args := ck cfn94 rfl
theorem lck95 {S : Sm} {objs : List (Nat × Ob)} {nxt : Nat} {args : List D} : z8 cfg S objs nxt 95 args = z6 S objs nxt 95 args := ck cfn95 rfl
theorem lck97 {S : Sm} {objs : List (Nat × Ob)} {nxt : Nat} {args : List D} : z8 cfg S objs nxt 97 args = z6 S objs nxt 97 args := ck cfn97 rfl
theorem lck98 {S : Sm} {objs : List (Nat × Ob)} {nxt : Nat} {args : List D} : z8 cfg S objs nxt 98 args = z6 S objs nxt 98 args := ck cfn98 rfl
theorem lck99 {S : Sm} {objs : List (Nat × Ob)} {nxt : Nat} {args : List D} : z8 cfg S objs nxt 99 args = z6 S objs nxt 99 args := ck cfn99 rfl
theorem lck100 {S : Sm} {objs : List (Nat × Ob)} {nxt : Nat} {args : List D} : z8 cfg S objs nxt 100 args = z6 S objs nxt 100 args := ck cfn100 rfl
theorem lck101 {S : Sm} {objs : List (Nat × Ob)} {nxt : Nat} {args : List D} : z8 cfg S objs nxt 101 args = z6 S objs nxt 101 args := ck cfn101 rfl
theorem lck102 {S : Sm} {objs : List (Nat × Ob)} {nxt : Nat} {args : List D} : z8 cfg S objs nxt 102 args = z6 S objs nxt 102 args := ck cfn102 rfl
theorem lck104 {S : Sm} {objs : List (Nat × Ob)} {nxt : Nat} {args : List D} : z8 cfg S objs nxt 104 args = z6 S objs nxt 104 args := ck cfn104 rfl
theorem lck105 {S : Sm} {objs : List (Nat × Ob)} {nxt : Nat} {args : List D} : z8 cfg S objs nxt 105 args = z6 S objs nxt 105 args := ck cfn105 rfl
theorem lck106 {S : Sm} {objs : List (Nat × Ob)} {nxt : Nat} {args : List D} : z8 cfg S objs nxt 106 args = z6 S objs nxt 106 args := ck cfn106 rfl
theorem lck107 {S : Sm} {objs : List (Nat × Ob)} {nxt : Nat} {args : List D} : z8 cfg S objs nxt 107 args = z6 S objs nxt 107 args := ck cfn107 rfl
theorem lck109 {S : Sm} {objs : List (Nat × Ob)} {nxt : Nat} {args : List D} : z8 cfg S objs nxt 109 args = z6 S objs nxt 109 args := ck cfn109 rfl
theorem lck113 {S : Sm} {objs : List (Nat × Ob)} {nxt : Nat} {args : List D} : z8 cfg S objs nxt 113 args = z6 S objs nxt 113 args := ck cfn113 rfl
theorem lck114 {S : Sm} {objs : List (Nat × Ob)} {nxt : Nat} {args : List D} : z8 cfg S objs nxt 114 args = z6 S objs nxt 114 args := ck cfn114 rfl
theorem lck115 {S : Sm} {objs : List (Nat × Ob)} {nxt : Nat} {args : List D} : z8 cfg S objs nxt 115 args = z6 S objs nxt 115 args := ck cfn115 rfl
theorem lck116 {S : Sm} {objs : List (Nat × Ob)} {nxt : Nat} {args : List D} : z8 cfg S objs nxt 116 args = z6 S objs nxt 116 args := ck cfn116 rfl
theorem lck118 {S : Sm} {objs : List (Nat × Ob)} {nxt : Nat} {args : List D} : z8 cfg S objs nxt 118 args = z6 S objs nxt 118 args := ck cfn118 rfl
theorem lck119 {S : Sm} {objs : List (Nat × Ob)} {nxt : Nat} {args : List D} : z8 cfg S objs nxt 119 args = z6 S objs nxt 119 args := ck cfn119 rfl
theorem lck120 {S : Sm} {objs : List (Nat × Ob)} {nxt : Nat} {args : List D} : z8 cfg S objs nxt 120 args = z6 S objs nxt 120 args := ck cfn120 rfl
theorem lck123 {S : Sm} {objs : List (Nat × Ob)} {nxt : Nat} {args : List D} : z8 cfg S objs nxt 123 args = z6 S objs nxt 123 args := ck cfn123 rfl
theorem lck124 {S : Sm} {objs : List (Nat × Ob)} {nxt : Nat} {args : List D} : z8 cfg S objs nxt 124 args = z6 S objs nxt 124 args := ck cfn124 rfl
theorem lck125 {S : Sm} {objs : List (Nat × Ob)} {nxt : Nat} {args : List D} : z8 cfg S objs nxt 125 args = z6 S objs nxt 125 args := ck cfn125 rfl
theorem lck126 {S : Sm} {objs : List (Nat × Ob)} {nxt : Nat} {args : List D} : z8 cfg S objs nxt 126 args = z6 S objs nxt 126 args := ck cfn126 rfl
theorem lck127 {S : Sm} {objs : List (Nat × Ob)} {nxt : Nat} {args : List D} : z8 cfg S objs nxt 127 args = z6 S objs nxt 127 args := ck cfn127 rfl
theorem lck128 {S : Sm} {objs : List (Nat × Ob)} {nxt : Nat} {args : List D} : z8 cfg S objs nxt 128 args = z6 S objs nxt 128 args := ck cfn128 rfl
theorem lck129 {S : Sm} {objs : List (Nat × Ob)} {nxt : Nat} {args : List D} : z8 cfg S objs nxt 129 args = z6 S objs nxt 129 args := ck cfn129 rfl
theorem lck130 {S : Sm} {objs : List (Nat × Ob)} {nxt : Nat} {args : List D} : z8 cfg S objs nxt 130 args = z6 S objs nxt 130 args := ck cfn130 rfl
theorem lck131 {S : Sm} {objs : List (Nat × Ob)} {nxt : Nat} {args : List D} : z8 cfg S objs nxt 131 args = z6 S objs nxt 131 args := ck cfn131 rfl
theorem lck140 {S : Sm} {objs : List (Nat × Ob)} {nxt : Nat} {args : List D} : z8 cfg S objs nxt 140 args = z6 S objs nxt 140 args := ck cfn140 rfl
theorem lck141 {S : Sm} {objs : List (Nat × Ob)} {nxt : Nat} {args : List D} : z8 cfg S objs nxt 141 args = z6 S objs nxt 141 args := ck cfn141 rfl
theorem lck142 {S : Sm} {objs : List (Nat × Ob)} {nxt : Nat} {args : List D} : z8 cfg S objs nxt 142 args = z6 S objs nxt 142 args := ck cfn142 rfl
theorem lck143 {S : Sm} {objs : List (Nat × Ob)} {nxt : Nat} {args : List D} : z8 cfg S objs nxt 143 args = z6 S objs nxt 143 args := ck cfn143 rfl
theorem lck148 {S : Sm} {objs : List (Nat × Ob)} {nxt : Nat} {args : List D} : z8 cfg S objs nxt 148 args = z6 S objs nxt 148 args := ck cfn148 rfl
theorem lck149 {S : Sm} {objs : List (Nat × Ob)} {nxt : Nat} {args : List D} : z8 cfg S objs nxt 149 args = z6 S objs nxt 149 args := ck cfn149 rfl
theorem lck151 {S : Sm} {objs : List (Nat × Ob)} {nxt : Nat} {args : List D} : z8 cfg S objs nxt 151 args = z6 S objs nxt 151 args := ck cfn151 rfl
theorem lck153 {S : Sm} {objs : List (Nat × Ob)} {nxt : Nat} {args : List D} : z8 cfg S objs nxt 153 args = z6 S objs nxt 153 args := ck cfn153 rfl
theorem lck154 {S : Sm} {objs : List (Nat × Ob)} {nxt : Nat} {args : List D} : z8 cfg S objs nxt 154 args = z6 S objs nxt 154 args := ck cfn154 rfl
theorem lck155 {S : Sm} {objs : List (Nat × Ob)} {nxt : Nat} {args : List D} : z8 cfg S objs nxt 155 args = z6 S objs nxt 155 args := ck cfn155 rfl
theorem lck156 {S : Sm} {objs : List (Nat × Ob)} {nxt : Nat} {args : List D} : z8 cfg S objs nxt 156 args = z6 S objs nxt 156 args := ck cfn156 rfl
theorem lck157 {S : Sm} {objs : List (Nat × Ob)} {nxt : Nat} {args : List D} : z8 cfg S objs nxt 157 args = z6 S objs nxt 157 args := ck cfn157 rfl
theorem lck159 {S : Sm} {objs : List (Nat × Ob)} {nxt : Nat} {args : List D} : z8 cfg S objs nxt 159 args = z6 S objs nxt 159 args := ck cfn159 rfl
theorem lck163 {S : Sm} {objs : List (Nat × Ob)} {nxt : Nat} {args : List D} : z8 cfg S objs nxt 163 args = z6 S objs nxt 163 args := ck cfn163 rfl
theorem lck164 {S : Sm} {objs : List (Nat × Ob)} {nxt : Nat} {args : List D} : z8 cfg S objs nxt 164 args = z6 S objs nxt 164 args := ck cfn164 rfl
theorem lck165 {S : Sm} {objs : List (Nat × Ob)} {nxt : Nat} {args : List D} : z8 cfg S objs nxt 165 args = z6 S objs nxt 165 args := ck cfn165 rfl
theorem lck166 {S : Sm} {objs : List (Nat × Ob)} {nxt : Nat} {args : List D} : z8 cfg S objs nxt 166 args = z6 S objs nxt 166 args := ck cfn166 rfl
theorem lck167 {S : Sm} {objs : List (Nat × Ob)} {nxt : Nat} {args : List D} : z8 cfg S objs nxt 167 args = z6 S objs nxt 167 args := ck cfn167 rfl
theorem lck169 {S : Sm} {objs : List (Nat × Ob)} {nxt : Nat} {args : List D} : z8 cfg S objs nxt 169 args = z6 S objs nxt 169 args := ck cfn169 rfl
theorem lck170 {S : Sm} {objs : List (Nat × Ob)} {nxt : Nat} {args : List D} : z8 cfg S objs nxt 170 args = z6 S objs nxt 170 args := ck cfn170 rfl
theorem lck171 {S : Sm} {objs : List (Nat × Ob)} {nxt : Nat} {args : List D} : z8 cfg S objs nxt 171 args = z6 S objs nxt 171 args := ck cfn171 rfl
theorem lck173 {S : Sm} {objs : List (Nat × Ob)} {nxt : Nat} {args : List D} : z8 cfg S objs nxt 173 args = z6 S objs nxt 173 args := ck cfn173 rfl
theorem lck174 {S : Sm} {objs : List (Nat × Ob)} {nxt : Nat} {args : List D} : z8 cfg S objs nxt 174 args = z6 S objs nxt 174 args := ck cfn174 rfl
theorem lck204 {S : Sm} {objs : List (Nat × Ob)} {nxt : Nat} {args : List D} : z8 cfg S objs nxt 204 args = z6 S objs nxt 204 args := ck cfn204 rfl
set_option linter.defProp false
def cks := (And.intro (And.intro (And.intro (And.intro (And.intro (And.intro (And.intro @lck2 @lck3) (And.intro @lck4 @lck5)) (And.intro (And.intro @lck6 @lck7) (And.intro @lck8 @lck9))) (And.intro (And.intro (And.intro @lck10 @lck11) (And.intro @lck12 @lck13)) (And.intro (And.intro @lck14 @lck15) (And.intro @lck16 @lck17)))) (And.intro (And.intro (And.intro (And.intro @lck18 @lck19) (And.intro @lck20 @lck21)) (And.intro (And.intro @lck22 @lck23) (And.intro @lck24 @lck25))) (And.intro (And.intro (And.intro @lck26 @lck27) (And.intro @lck28 @lck29)) (And.intro (And.intro @lck30 @lck31) (And.intro @lck32 @lck33))))) (And.intro (And.intro (And.intro (And.intro (And.intro @lck34 @lck35) (And.intro @lck37 @lck39)) (And.intro (And.intro @lck40 @lck41) (And.intro @lck42 @lck45))) (And.intro (And.intro (And.intro @lck46 @lck47) (And.intro @lck48 @lck49)) (And.intro (And.intro @lck50 @lck51) (And.intro @lck52 @lck53)))) (And.intro (And.intro (And.intro (And.intro @lck54 @lck55) (And.intro @lck56 @lck57)) (And.intro (And.intro @lck58 @lck59) (And.intro @lck65 @lck66))) (And.intro (And.intro (And.intro @lck67 @lck68) (And.intro @lck71 @lck73)) (And.intro (And.intro @lck74 @lck75) (And.intro @lck76 (And.intro @lck77 @lck78))))))) (And.intro (And.intro (And.intro (And.intro (And.intro (And.intro @lck79 @lck80) (And.intro @lck81 @lck83)) (And.intro (And.intro @lck84 @lck85) (And.intro @lck86 @lck88))) (And.intro (And.intro (And.intro @lck89 @lck90) (And.intro @lck91 @lck92)) (And.intro (And.intro @lck93 @lck94) (And.intro @lck95 @lck97)))) (And.intro (And.intro (And.intro (And.intro @lck98 @lck99) (And.intro @lck100 @lck101)) (And.intro (And.intro @lck102 @lck104) (And.intro @lck105 @lck106))) (And.intro (And.intro (And.intro @lck107 @lck109) (And.intro @lck113 @lck114)) (And.intro (And.intro @lck115 @lck116) (And.intro @lck118 (And.intro @lck119 @lck120)))))) (And.intro (And.intro (And.intro (And.intro (And.intro @lck123 @lck124) (And.intro @lck125 @lck126)) (And.intro (And.intro @lck127 @lck128) (And.intro @lck129 @lck130))) (And.intro (And.intro (And.intro @lck131 @lck140) (And.intro @lck141 @lck142)) (And.intro (And.intro @lck143 @lck148) (And.intro @lck149 @lck151)))) (And.intro (And.intro (And.intro (And.intro @lck153 @lck154) (And.intro @lck155 @lck156)) (And.intro (And.intro @lck157 @lck159) (And.intro @lck163 @lck164))) (And.intro (And.intro (And.intro @lck165 @lck166) (And.intro @lck167 @lck169)) (And.intro (And.intro @lck170 @lck171) (And.intro @lck173 (And.intro @lck174 @lck204))))))))
attribute [go_sem] tys cks cfg_ty cfg_eqok zs_false
theorem cfg_tab : cfg.tab gPow = some powTab := by
  show (bif eqb gPow gPow then some powTab else none) = _
  rw [zH.2 rfl]; rfl
theorem extOK : ExtOK cfg where
  pure := fun K g args d h hg => by
    have h' : (bif eqb K 98 then some itoaX else bif eqb K 99 then some joinX else none : Option (List D → Option D)) = some g := h
    cases hk : eqb K 98 with
    | true =>
      rw [hk] at h'
      have := zH.1 hk
      subst this
      cases h'
      exact itoaX_ok (C := cfg) rfl gPow_is cfg_tab (fun n h0 h1 w hv => Tryz.strconv_Itoa n h0 h1 w (by unfold Lib.TabIs; rw [← powTab_is]; exact hv)) hg
    | false =>
      rw [hk] at h'
      cases hj : eqb K 99 with
      | true =>
        rw [hj] at h'
        have := zH.1 hj
        subst this
        cases h'
        exact joinX_ok (C := cfg) rfl (fun bk o c xs sep w a1 a2 a3 a4 a5 => Tryz.strings_Join bk o c xs sep w a1 a2 a3 a4 a5) hg
      | false => rw [hj] at h'; cases h'
  inl := fun K g args objs nxt d objs' nxt' h => by cases h
theorem sane_ok : (lim cfg).pure 16 [] = some (B true) := lim_pure.2 ⟨60, by kernel_rfl⟩
theorem nil_ok : (lim cfg).pure 103 [.sl true [] 0 none, .fn (.func 104) [] []] = some (.tup []) := lim_pure.2 ⟨60, by kernel_rfl⟩
end Go.VS.F1

namespace Go.VS
open Go Go.Proofs Go.Sort Go.Shelf Go.RowKit
/-- What the program's comparison of spans says. -/
def gcmp (x y : Int × Int) : Int := F0.ranges_gathered_1 ⟨x.1, x.2⟩ ⟨y.1, y.2⟩
theorem cmp_val (a b : Int) : F0.cmp_Compare a b = if a < b then -1 else if a > b then 1 else 0 := by
  unfold F0.cmp_Compare
  have e : ∀ x : Int, F0.cmp_isNaN x = false := fun x => by simp [F0.cmp_isNaN]
  simp only [e, Bool.false_eq_true, if_false, Bool.cond_eq_ite, decide_eq_true_eq]
theorem gcmp_lo : loCmp gcmp := fun x y => by
  unfold gcmp F0.ranges_gathered_1
  rw [cmp_val]
  dsimp only
  repeat' split
  all_goals omega
noncomputable def cfg : Cfg := { P := Tryz.prog, fn := zh.find, ty := zo.find, keep := find2 keepTab, inl := fun K => memN K [36, 38, 43, 44, 60, 61, 62, 63, 64, 69, 70, 72, 82, 87, 96, 103, 108, 110, 111, 112, 117, 121, 122, 132, 133, 134, 135, 136, 137, 138, 139, 144, 145, 146, 147, 158, 160, 161, 162, 172, 190], ext := fun K => bif eqb K 16 then some (fun args => match args with | [] => some (B true) | _ => none) else none, xinl := fun K => bif eqb K 103 then some (sortN 104 gcmp) else none, glob := fun _ => none, eqok := fun t => (eqTab.find t).isSome, dr := false, tab := F1.cfg.tab }
theorem cfg_fn : cfg.fn = zh.find := rfl
theorem cfg_ty : cfg.ty = zo.find := rfl
theorem cfg_eqok (t : TypeId) : cfg.eqok t = (eqTab.find t).isSome := rfl
theorem cfgOK : CfgOK cfg where
  ty := fun _ _ h => tyTab_ok.find h
  fn := fun _ _ h => fnTab_ok.find h
  enter := fun _ _ h => enTab_ok.find h
  mixed := by kernel_rfl
  eqok := fun t h => by
    have h1 : (eqTab.find t).isSome = true := h
    cases hf : eqTab.find t with
    | none => rw [hf] at h1; cases h1
    | some u =>
      have := eqTab_ok.find hf
      unfold eqB at this
      simp only [Bool.and_eq_true, Bool.not_eq_true'] at this
      refine ⟨this.1.1, this.1.2, fun fs hfs f hm => ?_⟩
      have h2 := this.2
      have hfs' : Tryz.prog.underlying t = some (.struct fs) := hfs
      rw [hfs'] at h2
      simp only [List.all_eq_true, bne_iff_ne] at h2
      exact h2 f hm
theorem globOK {M : Mem} : zD cfg M := fun g d h => by cases h
theorem ck {S : Sm} {objs : List (Nat × Ob)} {nxt K : Nat} {args : List D} {fn : Func} (h : zh.find K = some fn) (hi : memN K [36, 38, 43, 44, 60, 61, 62, 63, 64, 69, 70, 72, 82, 87, 96, 103, 108, 110, 111, 112, 117, 121, 122, 132, 133, 134, 135, 136, 137, 138, 139, 144, 145, 146, 147, 158, 160, 161, 162, 172, 190] = false) : z8 cfg S objs nxt K args = z6 S objs nxt K args := by
  simp only [z8, cfg_fn, h]
  rw [show cfg.inl K = memN K [36, 38, 43, 44, 60, 61, 62, 63, 64, 69, 70, 72, 82, 87, 96, 103, 108, 110, 111, 112, 117, 121, 122, 132, 133, 134, 135, 136, 137, 138, 139, 144, 145, 146, 147, 158, 160, 161, 162, 172, 190] from rfl, hi]
  rfl
theorem lck2 {S : Sm} {objs : List (Nat × Ob)} {nxt : Nat} {args : List D} : z8 cfg S objs nxt 2 args = z6 S objs nxt 2 args := ck cfn2 rfl
theorem lck3 {S : Sm} {objs : List (Nat × Ob)} {nxt : Nat} {args : List D} : z8 cfg S objs nxt 3 args = z6 S objs nxt 3 args := ck cfn3 rfl
theorem lck4 {S : Sm} {objs : List (Nat × Ob)} {nxt : Nat} {args : List D} : z8 cfg S objs nxt 4 args = z6 S objs nxt 4 args := ck cfn4 rfl
theorem lck5 {S : Sm} {objs : List (Nat × Ob)} {nxt : Nat} {args : List D} : z8 cfg S objs nxt 5 args = z6 S objs nxt 5 args := ck cfn5 rfl
theorem lck6 {S : Sm} {objs : List (Nat × Ob)} {nxt : Nat} {args : List D} : z8 cfg S objs nxt 6 args = z6 S objs nxt 6 args := ck cfn6 rfl
theorem lck7 {S : Sm} {objs : List (Nat × Ob)} {nxt : Nat} {args : List D} : z8 cfg S objs nxt 7 args = z6 S objs nxt 7 args := ck cfn7 rfl
theorem lck8 {S : Sm} {objs : List (Nat × Ob)} {nxt : Nat} {args : List D} : z8 cfg S objs nxt 8 args = z6 S objs nxt 8 args := ck cfn8 rfl
theorem lck9 {S : Sm} {objs : List (Nat × Ob)} {nxt : Nat} {args : List D} : z8 cfg S objs nxt 9 args = z6 S objs nxt 9 args := ck cfn9 rfl
theorem lck10 {S : Sm} {objs : List (Nat × Ob)} {nxt : Nat} {args : List D} : z8 cfg S objs nxt 10 args = z6 S objs nxt 10 args := ck cfn10 rfl
theorem lck11 {S : Sm} {objs : List (Nat × Ob)} {nxt : Nat} {args : List D} : z8 cfg S objs nxt 11 args = z6 S objs nxt 11 args := ck cfn11 rfl
theorem lck12 {S : Sm} {objs : List (Nat × Ob)} {nxt : Nat} {args : List D} : z8 cfg S objs nxt 12 args = z6 S objs nxt 12 args := ck cfn12 rfl
theorem lck13 {S : Sm} {objs : List (Nat × Ob)} {nxt : Nat} {args : List D} : z8 cfg S objs nxt 13 args = z6 S objs nxt 13 args := ck cfn13 rfl
theorem lck14 {S : Sm} {objs : List (Nat × Ob)} {nxt : Nat} {args : List D} : z8 cfg S objs nxt 14 args = z6 S objs nxt 14 args := ck cfn14 rfl
theorem lck15 {S : Sm} {objs : List (Nat × Ob)} {nxt : Nat} {args : List D} : z8 cfg S objs nxt 15 args = z6 S objs nxt 15 args := ck cfn15 rfl
theorem lck16 {S : Sm} {objs : List (Nat × Ob)} {nxt : Nat} {args : List D} : z8 cfg S objs nxt 16 args = z6 S objs nxt 16 args := ck cfn16 rfl
theorem lck17 {S : Sm} {objs : List (Nat × Ob)} {nxt : Nat} {args : List D} : z8 cfg S objs nxt 17 args = z6 S objs nxt 17 args := ck cfn17 rfl
theorem lck18 {S : Sm} {objs : List (Nat × Ob)} {nxt : Nat} {args : List D} : z8 cfg S objs nxt 18 args = z6 S objs nxt 18 args := ck cfn18 rfl
theorem lck19 {S : Sm} {objs : List (Nat × Ob)} {nxt : Nat} {args : List D} : z8 cfg S objs nxt 19 args = z6 S objs nxt 19 args := ck cfn19 rfl
theorem lck20 {S : Sm} {objs : List (Nat × Ob)} {nxt : Nat} {args : List D} : z8 cfg S objs nxt 20 args = z6 S objs nxt 20 args := ck cfn20 rfl
theorem lck21 {S : Sm} {objs : List (Nat × Ob)} {nxt : Nat} {args : List D} : z8 cfg S objs nxt 21 args = z6 S objs nxt 21 args := ck cfn21 rfl
theorem lck22 {S : Sm} {objs : List (Nat × Ob)} {nxt : Nat} {args : List D} : z8 cfg S objs nxt 22 args = z6 S objs nxt 22 args := ck cfn22 rfl
theorem lck23 {S : Sm} {objs : List (Nat × Ob)} {nxt : Nat} {args : List D} : z8 cfg S objs nxt 23 args = z6 S objs nxt 23 args := ck cfn23 rfl
theorem lck24 {S : Sm} {objs : List (Nat × Ob)} {nxt : Nat} {args : List D} : z8 cfg S objs nxt 24 args = z6 S objs nxt 24 args := ck cfn24 rfl
theorem lck25 {S : Sm} {objs : List (Nat × Ob)} {nxt : Nat} {args : List D} : z8 cfg S objs nxt 25 args = z6 S objs nxt 25 args := ck cfn25 rfl
theorem lck26 {S : Sm} {objs : List (Nat × Ob)} {nxt : Nat} {args : List D} : z8 cfg S objs nxt 26 args = z6 S objs nxt 26 args := ck cfn26 rfl
theorem lck27 {S : Sm} {objs : List (Nat × Ob)} {nxt : Nat} {args : List D} : z8 cfg S objs nxt 27 args = z6 S objs nxt 27 args := ck cfn27 rfl
theorem lck28 {S : Sm} {objs : List (Nat × Ob)} {nxt : Nat} {args : List D} : z8 cfg S objs nxt 28 args = z6 S objs nxt 28 args := ck cfn28 rfl
theorem lck29 {S : Sm} {objs : List (Nat × Ob)} {nxt : Nat} {args : List D} : z8 cfg S objs nxt 29 args = z6 S objs nxt 29 args := ck cfn29 rfl
theorem lck30 {S : Sm} {objs : List (Nat × Ob)} {nxt : Nat} {args : List D} : z8 cfg S objs nxt 30 args = z6 S objs nxt 30 args := ck cfn30 rfl
theorem lck31 {S : Sm} {objs : List (Nat × Ob)} {nxt : Nat} {args : List D} : z8 cfg S objs nxt 31 args = z6 S objs nxt 31 args := ck cfn31 rfl
theorem lck32 {S : Sm} {objs : List (Nat × Ob)} {nxt : Nat} {args : List D} : z8 cfg S objs nxt 32 args = z6 S objs nxt 32 args := ck cfn32 rfl
theorem lck33 {S : Sm} {objs : List (Nat × Ob)} {nxt : Nat} {args : List D} : z8 cfg S objs nxt 33 args = z6 S objs nxt 33 args := ck cfn33 rfl
theorem lck34 {S : Sm} {objs : List (Nat × Ob)} {nxt : Nat} {args : List D} : z8 cfg S objs nxt 34 args = z6 S objs nxt 34 args := ck cfn34 rfl
theorem lck35 {S : Sm} {objs : List (Nat × Ob)} {nxt : Nat} {args : List D} : z8 cfg S objs nxt 35 args = z6 S objs nxt 35 args := ck cfn35 rfl
theorem lck37 {S : Sm} {objs : List (Nat × Ob)} {nxt : Nat} {args : List D} : z8 cfg S objs nxt 37 args = z6 S objs nxt 37 args := ck cfn37 rfl
theorem lck39 {S : Sm} {objs : List (Nat × Ob)} {nxt : Nat} {args : List D} : z8 cfg S objs nxt 39 args = z6 S objs nxt 39 args := ck cfn39 rfl
theorem lck40 {S : Sm} {objs : List (Nat × Ob)} {nxt : Nat} {args : List D} : z8 cfg S objs nxt 40 args = z6 S objs nxt 40 args := ck cfn40 rfl
theorem lck41 {S : Sm} {objs : List (Nat × Ob)} {nxt : Nat} {args : List D} : z8 cfg S objs nxt 41 args = z6 S objs nxt 41 args := ck cfn41 rfl
theorem lck42 {S : Sm} {objs : List (Nat × Ob)} {nxt : Nat} {args : List D} : z8 cfg S objs nxt 42 args = z6 S objs nxt 42 args := ck cfn42 rfl
theorem lck45 {S : Sm} {objs : List (Nat × Ob)} {nxt : Nat} {args : List D} : z8 cfg S objs nxt 45 args = z6 S objs nxt 45 args := ck cfn45 rfl
theorem lck46 {S : Sm} {objs : List (Nat × Ob)} {nxt : Nat} {args : List D} : z8 cfg S objs nxt 46 args = z6 S objs nxt 46 args := ck cfn46 rfl
theorem lck47 {S : Sm} {objs : List (Nat × Ob)} {nxt : Nat} {args : List D} : z8 cfg S objs nxt 47 args = z6 S objs nxt 47 args := ck cfn47 rfl
theorem lck48 {S : Sm} {objs : List (Nat × Ob)} {nxt : Nat} {args : List D} : z8 cfg S objs nxt 48 args = z6 S objs nxt 48 args := ck cfn48 rfl
theorem lck49 {S : Sm} {objs : List (Nat × Ob)} {nxt : Nat} {args : List D} : z8 cfg S objs nxt 49 args = z6 S objs nxt 49 args := ck cfn49 rfl
theorem lck50 {S : Sm} {objs : List (Nat × Ob)} {nxt : Nat} {args : List D} : z8 cfg S objs nxt 50 args = z6 S objs nxt 50 args := ck cfn50 rfl
theorem lck51 {S : Sm} {objs : List (Nat × Ob)} {nxt : Nat} {args : List D} : z8 cfg S objs nxt 51 args = z6 S objs nxt 51 args := ck cfn51 rfl
theorem lck52 {S : Sm} {objs : List (Nat × Ob)} {nxt : Nat} {args : List D} : z8 cfg S objs nxt 52 args = z6 S objs nxt 52 args := ck cfn52 rfl
theorem lck53 {S : Sm} {objs : List (Nat × Ob)} {nxt : Nat} {args : List D} : z8 cfg S objs nxt 53 args = z6 S objs nxt 53 args := ck cfn53 rfl
theorem lck54 {S : Sm} {objs : List (Nat × Ob)} {nxt : Nat} {args : List D} : z8 cfg S objs nxt 54 args = z6 S objs nxt 54 args := ck cfn54 rfl
theorem lck55 {S : Sm} {objs : List (Nat × Ob)} {nxt : Nat} {args : List D} : z8 cfg S objs nxt 55 args = z6 S objs nxt 55 args := ck cfn55 rfl
theorem lck56 {S : Sm} {objs : List (Nat × Ob)} {nxt : Nat} {args : List D} : z8 cfg S objs nxt 56 args = z6 S objs nxt 56 args := ck cfn56 rfl
theorem lck57 {S : Sm} {objs : List (Nat × Ob)} {nxt : Nat} {args : List D} : z8 cfg S objs nxt 57 args = z6 S objs nxt 57 args := ck cfn57 rfl
theorem lck58 {S : Sm} {objs : List (Nat × Ob)} {nxt : Nat} {args : List D} : z8 cfg S objs nxt 58 args = z6 S objs nxt 58 args := ck cfn58 rfl
theorem lck59 {S : Sm} {objs : List (Nat × Ob)} {nxt : Nat} {args : List D} : z8 cfg S objs nxt 59 args = z6 S objs nxt 59 args := ck cfn59 rfl
theorem lck65 {S : Sm} {objs : List (Nat × Ob)} {nxt : Nat} {args : List D} : z8 cfg S objs nxt 65 args = z6 S objs nxt 65 args := ck cfn65 rfl
theorem lck66 {S : Sm} {objs : List (Nat × Ob)} {nxt : Nat} {args : List D} : z8 cfg S objs nxt 66 args = z6 S objs nxt 66 args := ck cfn66 rfl
theorem lck67 {S : Sm} {objs : List (Nat × Ob)} {nxt : Nat} {args : List D} : z8 cfg S objs nxt 67 args = z6 S objs nxt 67 args := ck cfn67 rfl
theorem lck68 {S : Sm} {objs : List (Nat × Ob)} {nxt : Nat} {args : List D} : z8 cfg S objs nxt 68 args = z6 S objs nxt 68 args := ck cfn68 rfl
theorem lck71 {S : Sm} {objs : List (Nat × Ob)} {nxt : Nat} {args : List D} : z8 cfg S objs nxt 71 args = z6 S objs nxt 71 args := ck cfn71 rfl
theorem lck73 {S : Sm} {objs : List (Nat × Ob)} {nxt : Nat} {args : List D} : z8 cfg S objs nxt 73 args = z6 S objs nxt 73 args := ck cfn73 rfl
theorem lck74 {S : Sm} {objs : List (Nat × Ob)} {nxt : Nat} {args : List D} : z8 cfg S objs nxt 74 args = z6 S objs nxt 74 args := ck cfn74 rfl
theorem lck75 {S : Sm} {objs : List (Nat × Ob)} {nxt : Nat} {args : List D} : z8 cfg S objs nxt 75 args = z6 S objs nxt 75 args := ck cfn75 rfl
theorem lck76 {S : Sm} {objs : List (Nat × Ob)} {nxt : Nat} {args : List D} : z8 cfg S objs nxt 76 args = z6 S objs nxt 76 args := ck cfn76 rfl
theorem lck77 {S : Sm} {objs : List (Nat × Ob)} {nxt : Nat} {args : List D} : z8 cfg S objs nxt 77 args = z6 S objs nxt 77 args := ck cfn77 rfl
theorem lck78 {S : Sm} {objs : List (Nat × Ob)} {nxt : Nat} {args : List D} : z8 cfg S objs nxt 78 args = z6 S objs nxt 78 args := ck cfn78 rfl
theorem lck79 {S : Sm} {objs : List (Nat × Ob)} {nxt : Nat} {args : List D} : z8 cfg S objs nxt 79 args = z6 S objs nxt 79 args := ck cfn79 rfl
theorem lck80 {S : Sm} {objs : List (Nat × Ob)} {nxt : Nat} {args : List D} : z8 cfg S objs nxt 80 args = z6 S objs nxt 80 args := ck cfn80 rfl
theorem lck81 {S : Sm} {objs : List (Nat × Ob)} {nxt : Nat} {args : List D} : z8 cfg S objs nxt 81 args = z6 S objs nxt 81 args := ck cfn81 rfl
theorem lck83 {S : Sm} {objs : List (Nat × Ob)} {nxt : Nat} {args : List D} : z8 cfg S objs nxt 83 args = z6 S objs nxt 83 args := ck cfn83 rfl
theorem lck84 {S : Sm} {objs : List (Nat × Ob)} {nxt : Nat} {args : List D} : z8 cfg S objs nxt 84 args = z6 S objs nxt 84 args := ck cfn84 rfl
theorem lck85 {S : Sm} {objs : List (Nat × Ob)} {nxt : Nat} {args : List D} : z8 cfg S objs nxt 85 args = z6 S objs nxt 85 args := ck cfn85 rfl
theorem lck86 {S : Sm} {objs : List (Nat × Ob)} {nxt : Nat} {args : List D} : z8 cfg S objs nxt 86 args = z6 S objs nxt 86 args := ck cfn86 rfl
theorem lck88 {S : Sm} {objs : List (Nat × Ob)} {nxt : Nat} {args : List D} : z8 cfg S objs nxt 88 args = z6 S objs nxt 88 args := ck cfn88 rfl
theorem lck89 {S : Sm} {objs : List (Nat × Ob)} {nxt : Nat} {args : List D} : z8 cfg S objs nxt 89 args = z6 S objs nxt 89 args := ck cfn89 rfl
theorem lck90 {S : Sm} {objs : List (Nat × Ob)} {nxt : Nat} {args : List D} : z8 cfg S objs nxt 90 args = z6 S objs nxt 90 args := ck cfn90 rfl
theorem lck91 {S : Sm} {objs : List (Nat × Ob)} {nxt : Nat} {args : List D} : z8 cfg S objs nxt 91 args = z6 S objs nxt 91 args := ck cfn91 rfl
theorem lck92 {S : Sm} {objs : List (Nat × Ob)} {nxt : Nat} {args : List D} : z8 cfg S objs nxt 92 args = z6 S objs nxt 92 args := ck cfn92 rfl
theorem lck93 {S : Sm} {objs : List (Nat × Ob)} {nxt : Nat} {args : List D} : z8 cfg S objs nxt 93 args = z6 S objs nxt 93 args := ck cfn93 rfl
theorem lck94 {S : Sm} {objs : List (Nat × Ob)} {nxt : Nat} {args : List D} : z8 cfg S objs nxt 94 args = z6 S objs nxt 94 args := ck cfn94 rfl
theorem lck95 {S : Sm} {objs : List (Nat × Ob)} {nxt : Nat} {args : List D} : z8 cfg S objs nxt 95 args = z6 S objs nxt 95 args := ck cfn95 rfl
theorem lck97 {S : Sm} {objs : List (Nat × Ob)} {nxt : Nat} {args : List D} : z8 cfg S objs nxt 97 args = z6 S objs nxt 97 args := ck cfn97 rfl
theorem lck98 {S : Sm} {objs : List (Nat × Ob)} {nxt : Nat} {args : List D} : z8 cfg S objs nxt 98 args = z6 S objs nxt 98 args := ck cfn98 rfl
theorem lck99 {S : Sm} {objs : List (Nat × Ob)} {nxt : Nat} {args : List D} : z8 cfg S objs nxt 99 args = z6 S objs nxt 99 args := ck cfn99 rfl
theorem lck100 {S : Sm} {objs : List (Nat × Ob)} {nxt : Nat} {args : List D} : z8 cfg S objs nxt 100 args = z6 S objs nxt 100 args := ck cfn100 rfl
theorem lck101 {S : Sm} {objs : List (Nat × Ob)} {nxt : Nat} {args : List D} : z8 cfg S objs nxt 101 args = z6 S objs nxt 101 args := ck cfn101 rfl
theorem lck102 {S : Sm} {objs : List (Nat × Ob)} {nxt : Nat} {args : List D} : z8 cfg S objs nxt 102 args = z6 S objs nxt 102 args := ck cfn102 rfl
theorem lck104 {S : Sm} {objs : List (Nat × Ob)} {nxt : Nat} {args : List D} : z8 cfg S objs nxt 104 args = z6 S objs nxt 104 args := ck cfn104 rfl
theorem lck105 {S : Sm} {objs : List (Nat × Ob)} {nxt : Nat} {args : List D} : z8 cfg S objs nxt 105 args = z6 S objs nxt 105 args := ck cfn105 rfl
theorem lck106 {S : Sm} {objs : List (Nat × Ob)} {nxt : Nat} {args : List D} : z8 cfg S objs nxt 106 args = z6 S objs nxt 106 args := ck cfn106 rfl
theorem lck107 {S : Sm} {objs : List (Nat × Ob)} {nxt : Nat} {args : List D} : z8 cfg S objs nxt 107 args = z6 S objs nxt 107 args := ck cfn107 rfl
theorem lck109 {S : Sm} {objs : List (Nat × Ob)} {nxt : Nat} {args : List D} : z8 cfg S objs nxt 109 args = z6 S objs nxt 109 args := ck cfn109 rfl
theorem lck113 {S : Sm} {objs : List (Nat × Ob)} {nxt : Nat} {args : List D} : z8 cfg S objs nxt 113 args = z6 S objs nxt 113 args := ck cfn113 rfl
theorem lck114 {S : Sm} {objs : List (Nat × Ob)} {nxt : Nat} {args : List D} : z8 cfg S objs nxt 114 args = z6 S objs nxt 114 args := ck cfn114 rfl
theorem lck115 {S : Sm} {objs : List (Nat × Ob)} {nxt : Nat} {args : List D} : z8 cfg S objs nxt 115 args = z6 S objs nxt 115 args := ck cfn115 rfl
theorem lck116 {S : Sm} {objs : List (Nat × Ob)} {nxt : Nat} {args : List D} : z8 cfg S objs nxt 116 args = z6 S objs nxt 116 args := ck cfn116 rfl
theorem lck118 {S : Sm} {objs : List (Nat × Ob)} {nxt : Nat} {args : List D} : z8 cfg S objs nxt 118 args = z6 S objs nxt 118 args := ck cfn118 rfl
theorem lck119 {S : Sm} {objs : List (Nat × Ob)} {nxt : Nat} {args : List D} : z8 cfg S objs nxt 119 args = z6 S objs nxt 119 args := ck cfn119 rfl
theorem lck120 {S : Sm} {objs : List (Nat × Ob)} {nxt : Nat} {args : List D} : z8 cfg S objs nxt 120 args = z6 S objs nxt 120 args := ck cfn120 rfl
theorem lck123 {S : Sm} {objs : List (Nat × Ob)} {nxt : Nat} {args : List D} : z8 cfg S objs nxt 123 args = z6 S objs nxt 123 args := ck cfn123 rfl
theorem lck124 {S : Sm} {objs : List (Nat × Ob)} {nxt : Nat} {args : List D} : z8 cfg S objs nxt 124 args = z6 S objs nxt 124 args := ck cfn124 rfl
theorem lck125 {S : Sm} {objs : List (Nat × Ob)} {nxt : Nat} {args : List D} : z8 cfg S objs nxt 125 args = z6 S objs nxt 125 args := ck cfn125 rfl
theorem lck126 {S : Sm} {objs : List (Nat × Ob)} {nxt : Nat} {args : List D} : z8 cfg S objs nxt 126 args = z6 S objs nxt 126 args := ck cfn126 rfl
theorem lck127 {S : Sm} {objs : List (Nat × Ob)} {nxt : Nat} {args : List D} : z8 cfg S objs nxt 127 args = z6 S objs nxt 127 args := ck cfn127 rfl
theorem lck128 {S : Sm} {objs : List (Nat × Ob)} {nxt : Nat} {args : List D} : z8 cfg S objs nxt 128 args = z6 S objs nxt 128 args := ck cfn128 rfl
theorem lck129 {S : Sm} {objs : List (Nat × Ob)} {nxt : Nat} {args : List D} : z8 cfg S objs nxt 129 args = z6 S objs nxt 129 args := ck cfn129 rfl
theorem lck130 {S : Sm} {objs : List (Nat × Ob)} {nxt : Nat} {args : List D} : z8 cfg S objs nxt 130 args = z6 S objs nxt 130 args := ck cfn130 rfl
theorem lck131 {S : Sm} {objs : List (Nat × Ob)} {nxt : Nat} {args : List D} : z8 cfg S objs nxt 131 args = z6 S objs nxt 131 args := ck cfn131 rfl
theorem lck140 {S : Sm} {objs : List (Nat × Ob)} {nxt : Nat} {args : List D} : z8 cfg S objs nxt 140 args = z6 S objs nxt 140 args := ck cfn140 rfl
theorem lck141 {S : Sm} {objs : List (Nat × Ob)} {nxt : Nat} {args : List D} : z8 cfg S objs nxt 141 args = z6 S objs nxt 141 args := ck cfn141 rfl
theorem lck142 {S : Sm} {objs : List (Nat × Ob)} {nxt : Nat} {args : List D} : z8 cfg S objs nxt 142 args = z6 S objs nxt 142 args := ck cfn142 rfl
theorem lck143 {S : Sm} {objs : List (Nat × Ob)} {nxt : Nat} {args : List D} : z8 cfg S objs nxt 143 args = z6 S objs nxt 143 args := ck cfn143 rfl
theorem lck148 {S : Sm} {objs : List (Nat × Ob)} {nxt : Nat} {args : List D} : z8 cfg S objs nxt 148 args = z6 S objs nxt 148 args := ck cfn148 rfl
theorem lck149 {S : Sm} {objs : List (Nat × Ob)} {nxt : Nat} {args : List D} : z8 cfg S objs nxt 149 args = z6 S objs nxt 149 args := ck cfn149 rfl
theorem lck151 {S : Sm} {objs : List (Nat × Ob)} {nxt : Nat} {args : List D} : z8 cfg S objs nxt 151 args = z6 S objs nxt 151 args := ck cfn151 rfl
theorem lck153 {S : Sm} {objs : List (Nat × Ob)} {nxt : Nat} {args : List D} : z8 cfg S objs nxt 153 args = z6 S objs nxt 153 args := ck cfn153 rfl
theorem lck154 {S : Sm} {objs : List (Nat × Ob)} {nxt : Nat} {args : List D} : z8 cfg S objs nxt 154 args = z6 S objs nxt 154 args := ck cfn154 rfl
theorem lck155 {S : Sm} {objs : List (Nat × Ob)} {nxt : Nat} {args : List D} : z8 cfg S objs nxt 155 args = z6 S objs nxt 155 args := ck cfn155 rfl
theorem lck156 {S : Sm} {objs : List (Nat × Ob)} {nxt : Nat} {args : List D} : z8 cfg S objs nxt 156 args = z6 S objs nxt 156 args := ck cfn156 rfl
theorem lck157 {S : Sm} {objs : List (Nat × Ob)} {nxt : Nat} {args : List D} : z8 cfg S objs nxt 157 args = z6 S objs nxt 157 args := ck cfn157 rfl
theorem lck159 {S : Sm} {objs : List (Nat × Ob)} {nxt : Nat} {args : List D} : z8 cfg S objs nxt 159 args = z6 S objs nxt 159 args := ck cfn159 rfl
theorem lck163 {S : Sm} {objs : List (Nat × Ob)} {nxt : Nat} {args : List D} : z8 cfg S objs nxt 163 args = z6 S objs nxt 163 args := ck cfn163 rfl
theorem lck164 {S : Sm} {objs : List (Nat × Ob)} {nxt : Nat} {args : List D} : z8 cfg S objs nxt 164 args = z6 S objs nxt 164 args := ck cfn164 rfl
theorem lck165 {S : Sm} {objs : List (Nat × Ob)} {nxt : Nat} {args : List D} : z8 cfg S objs nxt 165 args = z6 S objs nxt 165 args := ck cfn165 rfl
theorem lck166 {S : Sm} {objs : List (Nat × Ob)} {nxt : Nat} {args : List D} : z8 cfg S objs nxt 166 args = z6 S objs nxt 166 args := ck cfn166 rfl
theorem lck167 {S : Sm} {objs : List (Nat × Ob)} {nxt : Nat} {args : List D} : z8 cfg S objs nxt 167 args = z6 S objs nxt 167 args := ck cfn167 rfl
theorem lck169 {S : Sm} {objs : List (Nat × Ob)} {nxt : Nat} {args : List D} : z8 cfg S objs nxt 169 args = z6 S objs nxt 169 args := ck cfn169 rfl
theorem lck170 {S : Sm} {objs : List (Nat × Ob)} {nxt : Nat} {args : List D} : z8 cfg S objs nxt 170 args = z6 S objs nxt 170 args := ck cfn170 rfl
theorem lck171 {S : Sm} {objs : List (Nat × Ob)} {nxt : Nat} {args : List D} : z8 cfg S objs nxt 171 args = z6 S objs nxt 171 args := ck cfn171 rfl
theorem lck173 {S : Sm} {objs : List (Nat × Ob)} {nxt : Nat} {args : List D} : z8 cfg S objs nxt 173 args = z6 S objs nxt 173 args := ck cfn173 rfl
theorem lck174 {S : Sm} {objs : List (Nat × Ob)} {nxt : Nat} {args : List D} : z8 cfg S objs nxt 174 args = z6 S objs nxt 174 args := ck cfn174 rfl
theorem lck204 {S : Sm} {objs : List (Nat × Ob)} {nxt : Nat} {args : List D} : z8 cfg S objs nxt 204 args = z6 S objs nxt 204 args := ck cfn204 rfl
set_option linter.defProp false
def cks := (And.intro (And.intro (And.intro (And.intro (And.intro (And.intro (And.intro @lck2 @lck3) (And.intro @lck4 @lck5)) (And.intro (And.intro @lck6 @lck7) (And.intro @lck8 @lck9))) (And.intro (And.intro (And.intro @lck10 @lck11) (And.intro @lck12 @lck13)) (And.intro (And.intro @lck14 @lck15) (And.intro @lck16 @lck17)))) (And.intro (And.intro (And.intro (And.intro @lck18 @lck19) (And.intro @lck20 @lck21)) (And.intro (And.intro @lck22 @lck23) (And.intro @lck24 @lck25))) (And.intro (And.intro (And.intro @lck26 @lck27) (And.intro @lck28 @lck29)) (And.intro (And.intro @lck30 @lck31) (And.intro @lck32 @lck33))))) (And.intro (And.intro (And.intro (And.intro (And.intro @lck34 @lck35) (And.intro @lck37 @lck39)) (And.intro (And.intro @lck40 @lck41) (And.intro @lck42 @lck45))) (And.intro (And.intro (And.intro @lck46 @lck47) (And.intro @lck48 @lck49)) (And.intro (And.intro @lck50 @lck51) (And.intro @lck52 @lck53)))) (And.intro (And.intro (And.intro (And.intro @lck54 @lck55) (And.intro @lck56 @lck57)) (And.intro (And.intro @lck58 @lck59) (And.intro @lck65 @lck66))) (And.intro (And.intro (And.intro @lck67 @lck68) (And.intro @lck71 @lck73)) (And.intro (And.intro @lck74 @lck75) (And.intro @lck76 (And.intro @lck77 @lck78))))))) (And.intro (And.intro (And.intro (And.intro (And.intro (And.intro @lck79 @lck80) (And.intro @lck81 @lck83)) (And.intro (And.intro @lck84 @lck85) (And.intro @lck86 @lck88))) (And.intro (And.intro (And.intro @lck89 @lck90) (And.intro @lck91 @lck92)) (And.intro (And.intro @lck93 @lck94) (And.intro @lck95 @lck97)))) (And.intro (And.intro (And.intro (And.intro @lck98 @lck99) (And.intro @lck100 @lck101)) (And.intro (And.intro @lck102 @lck104) (And.intro @lck105 @lck106))) (And.intro (And.intro (And.intro @lck107 @lck109) (And.intro @lck113 @lck114)) (And.intro (And.intro @lck115 @lck116) (And.intro @lck118 (And.intro @lck119 @lck120)))))) (And.intro (And.intro (And.intro (And.intro (And.intro @lck123 @lck124) (And.intro @lck125 @lck126)) (And.intro (And.intro @lck127 @lck128) (And.intro @lck129 @lck130))) (And.intro (And.intro (And.intro @lck131 @lck140) (And.intro @lck141 @lck142)) (And.intro (And.intro @lck143 @lck148) (And.intro @lck149 @lck151)))) (And.intro (And.intro (And.intro (And.intro @lck153 @lck154) (And.intro @lck155 @lck156)) (And.intro (And.intro @lck157 @lck159) (And.intro @lck163 @lck164))) (And.intro (And.intro (And.intro @lck165 @lck166) (And.intro @lck167 @lck169)) (And.intro (And.intro @lck170 @lck171) (And.intro @lck173 (And.intro @lck174 @lck204))))))))
attribute [go_sem] tys cks cfg_ty cfg_eqok zs_false
theorem pure_up {K : FuncId} {args : List D} {d : D} (h : PureOK F1.cfg K args d) : PureOK cfg K args d := fun M w vs h1 _ h3 h4 => h M w vs h1 F1.globOK h3 h4
theorem extOK : ExtOK cfg where
  pure := fun K g args d h hg => by
    have h' : (bif eqb K 16 then some (fun args => match args with | [] => some (B true) | _ => none) else none : Option (List D → Option D)) = some g := h
    cases hk : eqb K 16 with
    | false => rw [hk] at h'; cases h'
    | true =>
      rw [hk] at h'
      have := zH.1 hk
      subst this
      cases h'
      cases args with
      | nil => cases hg; exact pure_up (lim_sound F1.cfgOK F1.extOK F1.sane_ok)
      | cons a r => cases hg
  inl := fun K g args objs nxt d objs' nxt' h hg => by
    have h' : (bif eqb K 103 then some (sortN 104 gcmp) else none : Option (List D → List (Nat × Ob) → Nat → Option (D × List (Nat × Ob) × Nat))) = some g := h
    cases hk : eqb K 103 with
    | false => rw [hk] at h'; cases h'
    | true =>
      rw [hk] at h'
      have := zH.1 hk
      subst this
      cases h'
      exact sortN_ok (C := cfg) Tryz.sortP cfgOK Tryz.isAgg25 Tryz.sizeOf25 gcmp_lo.swo (g := 104) (fg := Tryz.f104) cfn104 (fun x y => pureQ_of (C0 := F0.cfg) rfl (fun _ => F0.globOK) (fun _ _ _ q => by cases q) (lim_sound F0.cfgOK F0.extOK (F0.T_ranges_gathered_1 ⟨x.1, x.2⟩ ⟨y.1, y.2⟩)))
        (fun nxt => inl_of_pure (pure_up (lim_sound F1.cfgOK F1.extOK F1.nil_ok)) (fun M m vs h => by simpa only [zn, Rep] using h) nxt) hg
theorem sane_ok : (lim cfg).pure 16 [] = some (B true) := pure_of rfl
end Go.VS

namespace Go.VS
open Go Go.Proofs
set_option maxHeartbeats 0
set_option linter.unusedSimpArgs false
set_option linter.unusedVariables false
def ranges_in (n : Int) (lo : Int) (hi : Int) : Bool :=
  bif decide (n ≥ lo) then
    bif decide (n ≤ hi) then
      true
    else
      false
  else
    false

theorem T_ranges_in (n : Int) (lo : Int) (hi : Int) : (lim cfg).pure 80 [I n, I lo, I hi] = some (B (ranges_in n lo hi)) := by
  unfold ranges_in
  cases h1 : decide (n ≥ lo) with
  | true =>
    have g1 := of_decide_eq_true h1
    cases h2 : decide (n ≤ hi) with
    | true =>
      have g2 := of_decide_eq_true h2
      exact ze [.dec true, .dec true] (And.intro h2 (And.intro h1 trivial)) (by kernel_rfl)
    | false =>
      have g2 := of_decide_eq_false h2
      exact ze [.dec true, .dec false] (And.intro h2 (And.intro h1 trivial)) (by kernel_rfl)
  | false =>
    have g1 := of_decide_eq_false h1
    exact ze [.dec false] (And.intro h1 trivial) (by kernel_rfl)

def zm (n : Int) : Bool :=
  bif (ranges_in n (-1099511627776) 1099511627776) then
    true
  else
    false

theorem zu (n : Int) : (lim cfg).pure 81 [I n] = some (B (zm n)) := by
  unfold zm
  cases h1 : (ranges_in n (-1099511627776) 1099511627776) with
  | true =>
    exact ze [.pure (B (ranges_in n (-1099511627776) 1099511627776)), .dec true] (And.intro h1 (And.intro (T_ranges_in n (-1099511627776) 1099511627776) trivial)) (by kernel_rfl)
  | false =>
    exact ze [.pure (B (ranges_in n (-1099511627776) 1099511627776)), .dec false] (And.intro h1 (And.intro (T_ranges_in n (-1099511627776) 1099511627776) trivial)) (by kernel_rfl)

noncomputable def lp47_4 : Code := subC [1, 1, 0, 1, 0, 0] (bodyC Tryz.f47)

inductive LR_ranges_Check_4 where
  | x0
  | x1 (i4 : Nat) (x4 : S_Span)
  | x2 (i4 : Nat) (x4 : S_Span)
  | x3 (i4 : Nat) (x4 : S_Span)
  | x4 (i4 : Nat) (x4 : S_Span)
instance : Inhabited LR_ranges_Check_4 := ⟨.x0⟩
def ranges_Check_4 (r : GS S_Span) : List S_Span → Nat → LR_ranges_Check_4
  | [], i4 => .x0
  | x4 :: zR, i4 =>
    bif decide (x4.lo > x4.hi) then
      .x1 i4 x4
    else
      bif (zm x4.lo) then
        bif (zm x4.hi) then
          bif decide (((i4 : Nat) : Int) > 0) then
            bif decide ((w64 (((GS.at r (w64 (((i4 : Nat) : Int) - 1))).hi) + 1)) ≥ x4.lo) then
              .x2 i4 x4
            else
              ranges_Check_4 r zR (i4 + 1)
          else
            ranges_Check_4 r zR (i4 + 1)
        else
          .x3 i4 x4
      else
        .x4 i4 x4
def lr_ranges_Check_4 (r : GS S_Span) : LR_ranges_Check_4 → Exit × St
  | .x0 => ((.exit 0), ⟨49, [(11, B false), (0, .sl r.nl (r.l.map S_Span.D) (zsl r.nl 2) none), (8, .sl r.nl (r.l.map S_Span.D) (zsl r.nl 2) none), (9, I ((r.l.length : Nat) : Int)), (10, I ((r.l.length : Nat) : Int))], [], 0, 0⟩)
  | .x1 i4 x4 => (.ret, ⟨49, [(2, I 20), (47, B true), (46, .tup []), (45, .tup []), (44, .tup []), (43, .tup []), (42, .tup []), (41, .tup []), (40, .tup []), (39, .tup []), (38, .tup []), (37, .tup []), (36, .tup []), (35, .tup []), (34, .tup []), (33, .tup []), (32, B true), (31, B true), (30, .tup []), (29, .tup []), (28, .tup []), (27, .tup []), (26, B true), (25, B true), (24, .tup []), (23, .tup []), (22, .tup []), (21, .tup []), (20, B true), (19, B true), (18, I x4.hi), (17, .lref 0 0 2 1), (16, I x4.lo), (15, .lref 0 0 2 0), (3, I ((i4 : Nat) : Int)), (4, .lref 0 0 2 0), (14, .agg [I x4.lo, I x4.hi]), (13, .ptr (.agg [I x4.lo, I x4.hi])), (12, I ((i4 : Nat) : Int)), (11, B true), (0, .sl r.nl (r.l.map S_Span.D) (zsl r.nl 2) none), (8, .sl r.nl (r.l.map S_Span.D) (zsl r.nl 2) none), (9, I ((r.l.length : Nat) : Int)), (10, I ((i4 : Nat) : Int))], [(0, ⟨[.agg [I x4.lo, I x4.hi]], 2, false⟩)], 1, 0⟩)
  | .x2 i4 x4 => (.ret, ⟨49, [(2, I 20), (47, B true), (46, B true), (45, B true), (44, I x4.lo), (43, .lref 0 0 2 0), (42, I (w64 (((GS.at r (w64 (((i4 : Nat) : Int) - 1))).hi) + 1))), (41, I ((GS.at r (w64 (((i4 : Nat) : Int) - 1))).hi)), (40, .ptr (I ((GS.at r (w64 (((i4 : Nat) : Int) - 1))).hi))), (39, .ptr (.agg [I ((GS.at r (w64 (((i4 : Nat) : Int) - 1))).lo), I ((GS.at r (w64 (((i4 : Nat) : Int) - 1))).hi)])), (38, I (w64 (((i4 : Nat) : Int) - 1))), (37, I ((i4 : Nat) : Int)), (36, .sl r.nl (r.l.map S_Span.D) (zsl r.nl 2) none), (35, B true), (34, B true), (33, I ((i4 : Nat) : Int)), (32, B false), (31, B false), (30, B false), (29, B true), (28, I x4.hi), (27, .lref 0 0 2 1), (26, B false), (25, B false), (24, B false), (23, B true), (22, I x4.lo), (21, .lref 0 0 2 0), (20, B false), (19, B false), (18, I x4.hi), (17, .lref 0 0 2 1), (16, I x4.lo), (15, .lref 0 0 2 0), (3, I ((i4 : Nat) : Int)), (4, .lref 0 0 2 0), (14, .agg [I x4.lo, I x4.hi]), (13, .ptr (.agg [I x4.lo, I x4.hi])), (12, I ((i4 : Nat) : Int)), (11, B true), (0, .sl r.nl (r.l.map S_Span.D) (zsl r.nl 2) none), (8, .sl r.nl (r.l.map S_Span.D) (zsl r.nl 2) none), (9, I ((r.l.length : Nat) : Int)), (10, I ((i4 : Nat) : Int))], [(0, ⟨[.agg [I x4.lo, I x4.hi]], 2, false⟩)], 1, 0⟩)
  | .x3 i4 x4 => (.ret, ⟨49, [(2, I 20), (47, B true), (46, .tup []), (45, .tup []), (44, .tup []), (43, .tup []), (42, .tup []), (41, .tup []), (40, .tup []), (39, .tup []), (38, .tup []), (37, .tup []), (36, .tup []), (35, .tup []), (34, .tup []), (33, .tup []), (32, B true), (31, B true), (30, B true), (29, B false), (28, I x4.hi), (27, .lref 0 0 2 1), (26, B false), (25, B false), (24, B false), (23, B true), (22, I x4.lo), (21, .lref 0 0 2 0), (20, B false), (19, B false), (18, I x4.hi), (17, .lref 0 0 2 1), (16, I x4.lo), (15, .lref 0 0 2 0), (3, I ((i4 : Nat) : Int)), (4, .lref 0 0 2 0), (14, .agg [I x4.lo, I x4.hi]), (13, .ptr (.agg [I x4.lo, I x4.hi])), (12, I ((i4 : Nat) : Int)), (11, B true), (0, .sl r.nl (r.l.map S_Span.D) (zsl r.nl 2) none), (8, .sl r.nl (r.l.map S_Span.D) (zsl r.nl 2) none), (9, I ((r.l.length : Nat) : Int)), (10, I ((i4 : Nat) : Int))], [(0, ⟨[.agg [I x4.lo, I x4.hi]], 2, false⟩)], 1, 0⟩)
  | .x4 i4 x4 => (.ret, ⟨49, [(2, I 20), (47, B true), (46, .tup []), (45, .tup []), (44, .tup []), (43, .tup []), (42, .tup []), (41, .tup []), (40, .tup []), (39, .tup []), (38, .tup []), (37, .tup []), (36, .tup []), (35, .tup []), (34, .tup []), (33, .tup []), (32, B true), (31, B true), (30, .tup []), (29, .tup []), (28, .tup []), (27, .tup []), (26, B true), (25, B true), (24, B true), (23, B false), (22, I x4.lo), (21, .lref 0 0 2 0), (20, B false), (19, B false), (18, I x4.hi), (17, .lref 0 0 2 1), (16, I x4.lo), (15, .lref 0 0 2 0), (3, I ((i4 : Nat) : Int)), (4, .lref 0 0 2 0), (14, .agg [I x4.lo, I x4.hi]), (13, .ptr (.agg [I x4.lo, I x4.hi])), (12, I ((i4 : Nat) : Int)), (11, B true), (0, .sl r.nl (r.l.map S_Span.D) (zsl r.nl 2) none), (8, .sl r.nl (r.l.map S_Span.D) (zsl r.nl 2) none), (9, I ((r.l.length : Nat) : Int)), (10, I ((i4 : Nat) : Int))], [(0, ⟨[.agg [I x4.lo, I x4.hi]], 2, false⟩)], 1, 0⟩)
def ranges_Check_4_l_o1 (x4 : S_Span) : List Ora := [.dec true, .el (.agg [I x4.lo, I x4.hi]), .dec false, .pure (B (zm x4.lo)), .dec true, .pure (B (zm x4.hi))]
def ranges_Check_4_l_o2 (r : GS S_Span) (i4 : Nat) : List Ora := [.dec true, .dec true, .el (.agg [I ((GS.at r (w64 (((i4 : Nat) : Int) - 1))).lo), I ((GS.at r (w64 (((i4 : Nat) : Int) - 1))).hi)])]
theorem lp_ranges_Check_4 (r : GS S_Span) : ∀ (zR : List S_Span) (i4 : Nat) (hd4 : r.l.drop i4 = zR) (hi4 : i4 ≤ r.l.length) (hL4 : r.l.length ≤ 9223372036854775807), (lim cfg).loop 47 lp47_4 ⟨49, [(0, .sl r.nl (r.l.map S_Span.D) (zsl r.nl 2) none), (8, .sl r.nl (r.l.map S_Span.D) (zsl r.nl 2) none), (9, I ((r.l.length : Nat) : Int)), (10, I ((i4 : Nat) : Int))], [], 0, 0⟩ = some (lr_ranges_Check_4 r (ranges_Check_4 r zR i4)) := by
  intro zR
  induction zR with
  | nil =>
    intro i4 hd4 hi4 hL4
    unfold ranges_Check_4
    obtain rfl : i4 = r.l.length := nil_eq hd4 hi4
    exact zI [.dec false] (And.intro (lt_no hd4) trivial) (by kernel_rfl)
  | cons x4 zR ih =>
    intro i4 hd4 hi4 hL4
    have hlt4 := zk hd4
    unfold ranges_Check_4
    have p1 := (el_at (s := r) (f := S_Span.D) (k := 2) hd4)
    cases h7 : decide (x4.lo > x4.hi) with
    | true =>
      have g7 := of_decide_eq_true h7
      exact zI [.dec true, .el (.agg [I x4.lo, I x4.hi]), .dec true] (And.intro h7 (And.intro p1 (And.intro (lt_at hd4) trivial))) (by kernel_rfl)
    | false =>
      have g7 := of_decide_eq_false h7
      cases h8 : (zm x4.lo) with
      | true =>
        cases h9 : (zm x4.hi) with
        | true =>
          cases h10 : decide (((i4 : Nat) : Int) > 0) with
          | true =>
            have g10 := of_decide_eq_true h10
            have p2 := (el_in (s := r) (f := S_Span.D) (k := 2) (i := w64 (((i4 : Nat) : Int) - 1)) (by simp only [List.length_append, List.length_cons, List.length_nil, za] at * <;> omega) (by simp only [List.length_append, List.length_cons, List.length_nil, za] at * <;> omega))
            cases h11 : decide ((w64 (((GS.at r (w64 (((i4 : Nat) : Int) - 1))).hi) + 1)) ≥ x4.lo) with
            | true =>
              have g11 := of_decide_eq_true h11
              exact zI ((ranges_Check_4_l_o1 x4) ++ ((ranges_Check_4_l_o2 r i4) ++ [.dec true])) (And.intro h11 (And.intro p2 (And.intro h10 (And.intro h9 (And.intro (zu x4.hi) (And.intro h8 (And.intro (zu x4.lo) (And.intro h7 (And.intro p1 (And.intro (lt_at hd4) trivial)))))))))) (by kernel_rfl)
            | false =>
              have g11 := of_decide_eq_false h11
              exact po_turn ((ranges_Check_4_l_o1 x4) ++ ((ranges_Check_4_l_o2 r i4) ++ [.dec false, .rw 48 (I ((i4 + 1 : Nat) : Int))])) (And.intro (inc_rw (i := i4) (by have := zk hd4; omega)) (And.intro h11 (And.intro p2 (And.intro h10 (And.intro h9 (And.intro (zu x4.hi) (And.intro h8 (And.intro (zu x4.lo) (And.intro h7 (And.intro p1 (And.intro (lt_at hd4) trivial))))))))))) (ih (i4 + 1) (zp hd4) (zk hd4) (by omega)) (by kernel_rfl)
          | false =>
            have g10 := of_decide_eq_false h10
            exact po_turn ((ranges_Check_4_l_o1 x4) ++ [.dec true, .dec false, .rw 48 (I ((i4 + 1 : Nat) : Int))]) (And.intro (inc_rw (i := i4) (by have := zk hd4; omega)) (And.intro h10 (And.intro h9 (And.intro (zu x4.hi) (And.intro h8 (And.intro (zu x4.lo) (And.intro h7 (And.intro p1 (And.intro (lt_at hd4) trivial))))))))) (ih (i4 + 1) (zp hd4) (zk hd4) (by omega)) (by kernel_rfl)
        | false =>
          exact zI ((ranges_Check_4_l_o1 x4) ++ [.dec false]) (And.intro h9 (And.intro (zu x4.hi) (And.intro h8 (And.intro (zu x4.lo) (And.intro h7 (And.intro p1 (And.intro (lt_at hd4) trivial))))))) (by kernel_rfl)
      | false =>
        exact zI [.dec true, .el (.agg [I x4.lo, I x4.hi]), .dec false, .pure (B (zm x4.lo)), .dec false] (And.intro h8 (And.intro (zu x4.lo) (And.intro h7 (And.intro p1 (And.intro (lt_at hd4) trivial))))) (by kernel_rfl)

def zg (r : GS S_Span) : Int :=
  bif decide (((r.l.length : Nat) : Int) > 64) then
    20
  else
    match ranges_Check_4 r r.l 0 with
    | .x0 =>
      0
    | .x1 i4 x4 =>
      20
    | .x2 i4 x4 =>
      20
    | .x3 i4 x4 =>
      20
    | .x4 i4 x4 =>
      20

def sd0 (r : GS S_Span) : St := ⟨49, [(11, B false), (0, .sl r.nl (r.l.map S_Span.D) (zsl r.nl 2) none), (8, .sl r.nl (r.l.map S_Span.D) (zsl r.nl 2) none), (9, I ((r.l.length : Nat) : Int)), (10, I ((r.l.length : Nat) : Int))], [], 0, 0⟩

def sd1 (r : GS S_Span) (i4 : Nat) (x4 : S_Span) : St := ⟨49, [(2, I 20), (47, B true), (46, .tup []), (45, .tup []), (44, .tup []), (43, .tup []), (42, .tup []), (41, .tup []), (40, .tup []), (39, .tup []), (38, .tup []), (37, .tup []), (36, .tup []), (35, .tup []), (34, .tup []), (33, .tup []), (32, B true), (31, B true), (30, .tup []), (29, .tup []), (28, .tup []), (27, .tup []), (26, B true), (25, B true), (24, .tup []), (23, .tup []), (22, .tup []), (21, .tup []), (20, B true), (19, B true), (18, I x4.hi), (17, .lref 0 0 2 1), (16, I x4.lo), (15, .lref 0 0 2 0), (3, I ((i4 : Nat) : Int)), (4, .lref 0 0 2 0), (14, .agg [I x4.lo, I x4.hi]), (13, .ptr (.agg [I x4.lo, I x4.hi])), (12, I ((i4 : Nat) : Int)), (11, B true), (0, .sl r.nl (r.l.map S_Span.D) (zsl r.nl 2) none), (8, .sl r.nl (r.l.map S_Span.D) (zsl r.nl 2) none), (9, I ((r.l.length : Nat) : Int)), (10, I ((i4 : Nat) : Int))], [(0, ⟨[.agg [I x4.lo, I x4.hi]], 2, false⟩)], 1, 0⟩

def sd2 (r : GS S_Span) (i4 : Nat) (x4 : S_Span) : St := ⟨49, [(2, I 20), (47, B true), (46, B true), (45, B true), (44, I x4.lo), (43, .lref 0 0 2 0), (42, I (w64 (((GS.at r (w64 (((i4 : Nat) : Int) - 1))).hi) + 1))), (41, I ((GS.at r (w64 (((i4 : Nat) : Int) - 1))).hi)), (40, .ptr (I ((GS.at r (w64 (((i4 : Nat) : Int) - 1))).hi))), (39, .ptr (.agg [I ((GS.at r (w64 (((i4 : Nat) : Int) - 1))).lo), I ((GS.at r (w64 (((i4 : Nat) : Int) - 1))).hi)])), (38, I (w64 (((i4 : Nat) : Int) - 1))), (37, I ((i4 : Nat) : Int)), (36, .sl r.nl (r.l.map S_Span.D) (zsl r.nl 2) none), (35, B true), (34, B true), (33, I ((i4 : Nat) : Int)), (32, B false), (31, B false), (30, B false), (29, B true), (28, I x4.hi), (27, .lref 0 0 2 1), (26, B false), (25, B false), (24, B false), (23, B true), (22, I x4.lo), (21, .lref 0 0 2 0), (20, B false), (19, B false), (18, I x4.hi), (17, .lref 0 0 2 1), (16, I x4.lo), (15, .lref 0 0 2 0), (3, I ((i4 : Nat) : Int)), (4, .lref 0 0 2 0), (14, .agg [I x4.lo, I x4.hi]), (13, .ptr (.agg [I x4.lo, I x4.hi])), (12, I ((i4 : Nat) : Int)), (11, B true), (0, .sl r.nl (r.l.map S_Span.D) (zsl r.nl 2) none), (8, .sl r.nl (r.l.map S_Span.D) (zsl r.nl 2) none), (9, I ((r.l.length : Nat) : Int)), (10, I ((i4 : Nat) : Int))], [(0, ⟨[.agg [I x4.lo, I x4.hi]], 2, false⟩)], 1, 0⟩

def sd3 (r : GS S_Span) (i4 : Nat) (x4 : S_Span) : St := ⟨49, [(2, I 20), (47, B true), (46, .tup []), (45, .tup []), (44, .tup []), (43, .tup []), (42, .tup []), (41, .tup []), (40, .tup []), (39, .tup []), (38, .tup []), (37, .tup []), (36, .tup []), (35, .tup []), (34, .tup []), (33, .tup []), (32, B true), (31, B true), (30, B true), (29, B false), (28, I x4.hi), (27, .lref 0 0 2 1), (26, B false), (25, B false), (24, B false), (23, B true), (22, I x4.lo), (21, .lref 0 0 2 0), (20, B false), (19, B false), (18, I x4.hi), (17, .lref 0 0 2 1), (16, I x4.lo), (15, .lref 0 0 2 0), (3, I ((i4 : Nat) : Int)), (4, .lref 0 0 2 0), (14, .agg [I x4.lo, I x4.hi]), (13, .ptr (.agg [I x4.lo, I x4.hi])), (12, I ((i4 : Nat) : Int)), (11, B true), (0, .sl r.nl (r.l.map S_Span.D) (zsl r.nl 2) none), (8, .sl r.nl (r.l.map S_Span.D) (zsl r.nl 2) none), (9, I ((r.l.length : Nat) : Int)), (10, I ((i4 : Nat) : Int))], [(0, ⟨[.agg [I x4.lo, I x4.hi]], 2, false⟩)], 1, 0⟩

def sd4 (r : GS S_Span) (i4 : Nat) (x4 : S_Span) : St := ⟨49, [(2, I 20), (47, B true), (46, .tup []), (45, .tup []), (44, .tup []), (43, .tup []), (42, .tup []), (41, .tup []), (40, .tup []), (39, .tup []), (38, .tup []), (37, .tup []), (36, .tup []), (35, .tup []), (34, .tup []), (33, .tup []), (32, B true), (31, B true), (30, .tup []), (29, .tup []), (28, .tup []), (27, .tup []), (26, B true), (25, B true), (24, B true), (23, B false), (22, I x4.lo), (21, .lref 0 0 2 0), (20, B false), (19, B false), (18, I x4.hi), (17, .lref 0 0 2 1), (16, I x4.lo), (15, .lref 0 0 2 0), (3, I ((i4 : Nat) : Int)), (4, .lref 0 0 2 0), (14, .agg [I x4.lo, I x4.hi]), (13, .ptr (.agg [I x4.lo, I x4.hi])), (12, I ((i4 : Nat) : Int)), (11, B true), (0, .sl r.nl (r.l.map S_Span.D) (zsl r.nl 2) none), (8, .sl r.nl (r.l.map S_Span.D) (zsl r.nl 2) none), (9, I ((r.l.length : Nat) : Int)), (10, I ((i4 : Nat) : Int))], [(0, ⟨[.agg [I x4.lo, I x4.hi]], 2, false⟩)], 1, 0⟩

theorem zw (r : GS S_Span) (hL_r : r.l.length ≤ 9223372036854775807) : (lim cfg).pure 47 [GS.D S_Span.D 2 r] = some (I (zg r)) := by
  unfold zg
  cases h1 : decide (((r.l.length : Nat) : Int) > 64) with
  | true =>
    have g1 := of_decide_eq_true h1
    exact ze [.rw 6 (I ((r.l.length : Nat) : Int)), .dec true] (And.intro h1 (And.intro (zb S_Span.D r) trivial)) (by kernel_rfl)
  | false =>
    have g1 := of_decide_eq_false h1
    cases h12 : ranges_Check_4 r r.l 0 with
    | x0 =>
      try dsimp only
      exact ze [.rw 6 (I ((r.l.length : Nat) : Int)), .dec false, .rw 9 (I ((r.l.length : Nat) : Int)), .loop (.exit 0) (sd0 r)] (And.intro (po_lr (q := lr_ranges_Check_4 r) (lp_ranges_Check_4 r r.l 0 (List.drop_zero) (Nat.zero_le _) (by omega)) h12) (And.intro (zb S_Span.D r) (And.intro h1 (And.intro (zb S_Span.D r) trivial)))) (by kernel_rfl)
    | x1 i4 x4 =>
      try dsimp only
      exact ze [.rw 6 (I ((r.l.length : Nat) : Int)), .dec false, .rw 9 (I ((r.l.length : Nat) : Int)), .loop .ret (sd1 r i4 x4)] (And.intro (po_lr (q := lr_ranges_Check_4 r) (lp_ranges_Check_4 r r.l 0 (List.drop_zero) (Nat.zero_le _) (by omega)) h12) (And.intro (zb S_Span.D r) (And.intro h1 (And.intro (zb S_Span.D r) trivial)))) (by kernel_rfl)
    | x2 i4 x4 =>
      try dsimp only
      exact ze [.rw 6 (I ((r.l.length : Nat) : Int)), .dec false, .rw 9 (I ((r.l.length : Nat) : Int)), .loop .ret (sd2 r i4 x4)] (And.intro (po_lr (q := lr_ranges_Check_4 r) (lp_ranges_Check_4 r r.l 0 (List.drop_zero) (Nat.zero_le _) (by omega)) h12) (And.intro (zb S_Span.D r) (And.intro h1 (And.intro (zb S_Span.D r) trivial)))) (by kernel_rfl)
    | x3 i4 x4 =>
      try dsimp only
      exact ze [.rw 6 (I ((r.l.length : Nat) : Int)), .dec false, .rw 9 (I ((r.l.length : Nat) : Int)), .loop .ret (sd3 r i4 x4)] (And.intro (po_lr (q := lr_ranges_Check_4 r) (lp_ranges_Check_4 r r.l 0 (List.drop_zero) (Nat.zero_le _) (by omega)) h12) (And.intro (zb S_Span.D r) (And.intro h1 (And.intro (zb S_Span.D r) trivial)))) (by kernel_rfl)
    | x4 i4 x4 =>
      try dsimp only
      exact ze [.rw 6 (I ((r.l.length : Nat) : Int)), .dec false, .rw 9 (I ((r.l.length : Nat) : Int)), .loop .ret (sd4 r i4 x4)] (And.intro (po_lr (q := lr_ranges_Check_4 r) (lp_ranges_Check_4 r r.l 0 (List.drop_zero) (Nat.zero_le _) (by omega)) h12) (And.intro (zb S_Span.D r) (And.intro h1 (And.intro (zb S_Span.D r) trivial)))) (by kernel_rfl)

theorem two_bd {a b : GS S_Span} {n : Nat} (ha : a.l.length ≤ n) (hb : b.l.length ≤ n) : ∀ r ∈ (GS.some [a, b]).l, r.l.length ≤ n := by
  intro r hr
  simp only [GS.some_l, List.mem_cons, List.not_mem_nil, or_false] at hr
  rcases hr with rfl | rfl
  · exact ha
  · exact hb

noncomputable def lp32_4 : Code := subC [1, 1, 0, 1, 0, 0] (bodyC Tryz.f32)

inductive LR_r_Valid_4 where
  | x0
  | x1 (i4 : Nat) (x4 : S_Span)
  | x2 (i4 : Nat) (x4 : S_Span)
  | x3 (i4 : Nat) (x4 : S_Span)
  | x4 (i4 : Nat) (x4 : S_Span)
instance : Inhabited LR_r_Valid_4 := ⟨.x0⟩
def r_Valid_4 (r : GS S_Span) : List S_Span → Nat → LR_r_Valid_4
  | [], i4 => .x0
  | x4 :: zR, i4 =>
    bif decide (x4.lo > x4.hi) then
      .x1 i4 x4
    else
      bif decide (x4.lo < (-1099511627776)) then
        .x2 i4 x4
      else
        bif decide (x4.hi > 1099511627776) then
          .x3 i4 x4
        else
          bif decide (((i4 : Nat) : Int) > 0) then
            bif decide ((w64 (((GS.at r (w64 (((i4 : Nat) : Int) - 1))).hi) + 1)) ≥ x4.lo) then
              .x4 i4 x4
            else
              r_Valid_4 r zR (i4 + 1)
          else
            r_Valid_4 r zR (i4 + 1)
def lr_r_Valid_4 (r : GS S_Span) : LR_r_Valid_4 → Exit × St
  | .x0 => ((.exit 0), ⟨57, [(10, B false), (9, I ((r.l.length : Nat) : Int)), (8, .sl r.nl (r.l.map S_Span.D) (zsl r.nl 2) none), (7, I ((r.l.length : Nat) : Int)), (0, .sl r.nl (r.l.map S_Span.D) (zsl r.nl 2) none), (3, I ((r.l.length : Nat) : Int))], [], 0, 0⟩)
  | .x1 i4 x4 => (.ret, ⟨57, [(2, B false), (39, B true), (38, .tup []), (37, .tup []), (36, .tup []), (35, .tup []), (34, .tup []), (33, .tup []), (32, B true), (31, B true), (30, .tup []), (29, .tup []), (28, .tup []), (27, .tup []), (26, .tup []), (25, .tup []), (24, B true), (23, B true), (22, I x4.hi), (21, .ptr (I x4.hi)), (20, .ptr (.agg [I x4.lo, I x4.hi])), (19, I ((i4 : Nat) : Int)), (18, .sl r.nl (r.l.map S_Span.D) (zsl r.nl 2) none), (17, I x4.lo), (16, .ptr (I x4.lo)), (15, .ptr (.agg [I x4.lo, I x4.hi])), (14, I ((i4 : Nat) : Int)), (13, .sl r.nl (r.l.map S_Span.D) (zsl r.nl 2) none), (10, B true), (9, I ((r.l.length : Nat) : Int)), (8, .sl r.nl (r.l.map S_Span.D) (zsl r.nl 2) none), (7, I ((i4 : Nat) : Int)), (0, .sl r.nl (r.l.map S_Span.D) (zsl r.nl 2) none), (3, I ((i4 : Nat) : Int))], [], 0, 0⟩)
  | .x2 i4 x4 => (.ret, ⟨57, [(2, B false), (39, B true), (38, .tup []), (37, .tup []), (36, .tup []), (35, .tup []), (34, .tup []), (33, .tup []), (32, B true), (31, B true), (30, B true), (29, I x4.lo), (28, .ptr (I x4.lo)), (27, .ptr (.agg [I x4.lo, I x4.hi])), (26, I ((i4 : Nat) : Int)), (25, .sl r.nl (r.l.map S_Span.D) (zsl r.nl 2) none), (24, B false), (23, B false), (22, I x4.hi), (21, .ptr (I x4.hi)), (20, .ptr (.agg [I x4.lo, I x4.hi])), (19, I ((i4 : Nat) : Int)), (18, .sl r.nl (r.l.map S_Span.D) (zsl r.nl 2) none), (17, I x4.lo), (16, .ptr (I x4.lo)), (15, .ptr (.agg [I x4.lo, I x4.hi])), (14, I ((i4 : Nat) : Int)), (13, .sl r.nl (r.l.map S_Span.D) (zsl r.nl 2) none), (10, B true), (9, I ((r.l.length : Nat) : Int)), (8, .sl r.nl (r.l.map S_Span.D) (zsl r.nl 2) none), (7, I ((i4 : Nat) : Int)), (0, .sl r.nl (r.l.map S_Span.D) (zsl r.nl 2) none), (3, I ((i4 : Nat) : Int))], [], 0, 0⟩)
  | .x3 i4 x4 => (.ret, ⟨57, [(2, B false), (39, B true), (38, B true), (37, I x4.hi), (36, .ptr (I x4.hi)), (35, .ptr (.agg [I x4.lo, I x4.hi])), (34, I ((i4 : Nat) : Int)), (33, .sl r.nl (r.l.map S_Span.D) (zsl r.nl 2) none), (32, B false), (31, B false), (30, B false), (29, I x4.lo), (28, .ptr (I x4.lo)), (27, .ptr (.agg [I x4.lo, I x4.hi])), (26, I ((i4 : Nat) : Int)), (25, .sl r.nl (r.l.map S_Span.D) (zsl r.nl 2) none), (24, B false), (23, B false), (22, I x4.hi), (21, .ptr (I x4.hi)), (20, .ptr (.agg [I x4.lo, I x4.hi])), (19, I ((i4 : Nat) : Int)), (18, .sl r.nl (r.l.map S_Span.D) (zsl r.nl 2) none), (17, I x4.lo), (16, .ptr (I x4.lo)), (15, .ptr (.agg [I x4.lo, I x4.hi])), (14, I ((i4 : Nat) : Int)), (13, .sl r.nl (r.l.map S_Span.D) (zsl r.nl 2) none), (10, B true), (9, I ((r.l.length : Nat) : Int)), (8, .sl r.nl (r.l.map S_Span.D) (zsl r.nl 2) none), (7, I ((i4 : Nat) : Int)), (0, .sl r.nl (r.l.map S_Span.D) (zsl r.nl 2) none), (3, I ((i4 : Nat) : Int))], [], 0, 0⟩)
  | .x4 i4 x4 => (.ret, ⟨57, [(2, B false), (56, B true), (55, B true), (54, I x4.lo), (53, .ptr (I x4.lo)), (52, .ptr (.agg [I x4.lo, I x4.hi])), (51, I ((i4 : Nat) : Int)), (50, .sl r.nl (r.l.map S_Span.D) (zsl r.nl 2) none), (49, I (w64 (((GS.at r (w64 (((i4 : Nat) : Int) - 1))).hi) + 1))), (48, I ((GS.at r (w64 (((i4 : Nat) : Int) - 1))).hi)), (47, .ptr (I ((GS.at r (w64 (((i4 : Nat) : Int) - 1))).hi))), (46, .ptr (.agg [I ((GS.at r (w64 (((i4 : Nat) : Int) - 1))).lo), I ((GS.at r (w64 (((i4 : Nat) : Int) - 1))).hi)])), (45, I (w64 (((i4 : Nat) : Int) - 1))), (44, I ((i4 : Nat) : Int)), (43, .sl r.nl (r.l.map S_Span.D) (zsl r.nl 2) none), (42, B true), (41, B true), (40, I ((i4 : Nat) : Int)), (39, B false), (38, B false), (37, I x4.hi), (36, .ptr (I x4.hi)), (35, .ptr (.agg [I x4.lo, I x4.hi])), (34, I ((i4 : Nat) : Int)), (33, .sl r.nl (r.l.map S_Span.D) (zsl r.nl 2) none), (32, B false), (31, B false), (30, B false), (29, I x4.lo), (28, .ptr (I x4.lo)), (27, .ptr (.agg [I x4.lo, I x4.hi])), (26, I ((i4 : Nat) : Int)), (25, .sl r.nl (r.l.map S_Span.D) (zsl r.nl 2) none), (24, B false), (23, B false), (22, I x4.hi), (21, .ptr (I x4.hi)), (20, .ptr (.agg [I x4.lo, I x4.hi])), (19, I ((i4 : Nat) : Int)), (18, .sl r.nl (r.l.map S_Span.D) (zsl r.nl 2) none), (17, I x4.lo), (16, .ptr (I x4.lo)), (15, .ptr (.agg [I x4.lo, I x4.hi])), (14, I ((i4 : Nat) : Int)), (13, .sl r.nl (r.l.map S_Span.D) (zsl r.nl 2) none), (10, B true), (9, I ((r.l.length : Nat) : Int)), (8, .sl r.nl (r.l.map S_Span.D) (zsl r.nl 2) none), (7, I ((i4 : Nat) : Int)), (0, .sl r.nl (r.l.map S_Span.D) (zsl r.nl 2) none), (3, I ((i4 : Nat) : Int))], [], 0, 0⟩)
def r_Valid_4_l_o1 (r : GS S_Span) (x4 : S_Span) : List Ora := [.rw 9 (I ((r.l.length : Nat) : Int)), .dec true, .el (.agg [I x4.lo, I x4.hi]), .el (.agg [I x4.lo, I x4.hi]), .dec false, .el (.agg [I x4.lo, I x4.hi])]
def r_Valid_4_l_o2 (r : GS S_Span) (i4 : Nat) (x4 : S_Span) : List Ora := [.dec false, .el (.agg [I x4.lo, I x4.hi]), .dec false, .dec true, .el (.agg [I ((GS.at r (w64 (((i4 : Nat) : Int) - 1))).lo), I ((GS.at r (w64 (((i4 : Nat) : Int) - 1))).hi)]), .el (.agg [I x4.lo, I x4.hi])]
theorem lp_r_Valid_4 (r : GS S_Span) : ∀ (zR : List S_Span) (i4 : Nat) (hd4 : r.l.drop i4 = zR) (hi4 : i4 ≤ r.l.length) (hL4 : r.l.length ≤ 9223372036854775807), (lim cfg).loop 32 lp32_4 ⟨57, [(0, .sl r.nl (r.l.map S_Span.D) (zsl r.nl 2) none), (3, I ((i4 : Nat) : Int))], [], 0, 0⟩ = some (lr_r_Valid_4 r (r_Valid_4 r zR i4)) := by
  intro zR
  induction zR with
  | nil =>
    intro i4 hd4 hi4 hL4
    unfold r_Valid_4
    obtain rfl : i4 = r.l.length := nil_eq hd4 hi4
    exact zI [.rw 9 (I ((r.l.length : Nat) : Int)), .dec false] (And.intro (lt_no hd4) (And.intro (zb S_Span.D r) trivial)) (by kernel_rfl)
  | cons x4 zR ih =>
    intro i4 hd4 hi4 hL4
    have hlt4 := zk hd4
    unfold r_Valid_4
    have p1 := (el_at (s := r) (f := S_Span.D) (k := 2) hd4)
    have p2 := (el_at (s := r) (f := S_Span.D) (k := 2) hd4)
    cases h7 : decide (x4.lo > x4.hi) with
    | true =>
      have g7 := of_decide_eq_true h7
      exact zI [.rw 9 (I ((r.l.length : Nat) : Int)), .dec true, .el (.agg [I x4.lo, I x4.hi]), .el (.agg [I x4.lo, I x4.hi]), .dec true] (And.intro h7 (And.intro p2 (And.intro p1 (And.intro (lt_at hd4) (And.intro (zb S_Span.D r) trivial))))) (by kernel_rfl)
    | false =>
      have g7 := of_decide_eq_false h7
      have p3 := (el_at (s := r) (f := S_Span.D) (k := 2) hd4)
      cases h8 : decide (x4.lo < (-1099511627776)) with
      | true =>
        have g8 := of_decide_eq_true h8
        exact zI ((r_Valid_4_l_o1 r x4) ++ [.dec true]) (And.intro h8 (And.intro p3 (And.intro h7 (And.intro p2 (And.intro p1 (And.intro (lt_at hd4) (And.intro (zb S_Span.D r) trivial))))))) (by kernel_rfl)
      | false =>
        have g8 := of_decide_eq_false h8
        have p4 := (el_at (s := r) (f := S_Span.D) (k := 2) hd4)
        cases h9 : decide (x4.hi > 1099511627776) with
        | true =>
          have g9 := of_decide_eq_true h9
          exact zI ((r_Valid_4_l_o1 r x4) ++ [.dec false, .el (.agg [I x4.lo, I x4.hi]), .dec true]) (And.intro h9 (And.intro p4 (And.intro h8 (And.intro p3 (And.intro h7 (And.intro p2 (And.intro p1 (And.intro (lt_at hd4) (And.intro (zb S_Span.D r) trivial))))))))) (by kernel_rfl)
        | false =>
          have g9 := of_decide_eq_false h9
          cases h10 : decide (((i4 : Nat) : Int) > 0) with
          | true =>
            have g10 := of_decide_eq_true h10
            have p5 := (el_in (s := r) (f := S_Span.D) (k := 2) (i := w64 (((i4 : Nat) : Int) - 1)) (by simp only [List.length_append, List.length_cons, List.length_nil, za] at * <;> omega) (by simp only [List.length_append, List.length_cons, List.length_nil, za] at * <;> omega))
            have p6 := (el_at (s := r) (f := S_Span.D) (k := 2) hd4)
            cases h11 : decide ((w64 (((GS.at r (w64 (((i4 : Nat) : Int) - 1))).hi) + 1)) ≥ x4.lo) with
            | true =>
              have g11 := of_decide_eq_true h11
              exact zI ((r_Valid_4_l_o1 r x4) ++ ((r_Valid_4_l_o2 r i4 x4) ++ [.dec true])) (And.intro h11 (And.intro p6 (And.intro p5 (And.intro h10 (And.intro h9 (And.intro p4 (And.intro h8 (And.intro p3 (And.intro h7 (And.intro p2 (And.intro p1 (And.intro (lt_at hd4) (And.intro (zb S_Span.D r) trivial))))))))))))) (by kernel_rfl)
            | false =>
              have g11 := of_decide_eq_false h11
              exact po_turn ((r_Valid_4_l_o1 r x4) ++ ((r_Valid_4_l_o2 r i4 x4) ++ [.dec false, .rw 12 (I ((i4 + 1 : Nat) : Int))])) (And.intro (inc_rw (i := i4) (by have := zk hd4; omega)) (And.intro h11 (And.intro p6 (And.intro p5 (And.intro h10 (And.intro h9 (And.intro p4 (And.intro h8 (And.intro p3 (And.intro h7 (And.intro p2 (And.intro p1 (And.intro (lt_at hd4) (And.intro (zb S_Span.D r) trivial)))))))))))))) (ih (i4 + 1) (zp hd4) (zk hd4) (by omega)) (by kernel_rfl)
          | false =>
            have g10 := of_decide_eq_false h10
            exact po_turn ((r_Valid_4_l_o1 r x4) ++ [.dec false, .el (.agg [I x4.lo, I x4.hi]), .dec false, .dec false, .rw 12 (I ((i4 + 1 : Nat) : Int))]) (And.intro (inc_rw (i := i4) (by have := zk hd4; omega)) (And.intro h10 (And.intro h9 (And.intro p4 (And.intro h8 (And.intro p3 (And.intro h7 (And.intro p2 (And.intro p1 (And.intro (lt_at hd4) (And.intro (zb S_Span.D r) trivial))))))))))) (ih (i4 + 1) (zp hd4) (zk hd4) (by omega)) (by kernel_rfl)

def zF (r : GS S_Span) : Bool :=
  bif decide (((r.l.length : Nat) : Int) > 64) then
    false
  else
    match r_Valid_4 r r.l 0 with
    | .x0 =>
      true
    | .x1 i4 x4 =>
      false
    | .x2 i4 x4 =>
      false
    | .x3 i4 x4 =>
      false
    | .x4 i4 x4 =>
      false

def sd7 (r : GS S_Span) : St := ⟨57, [(10, B false), (9, I ((r.l.length : Nat) : Int)), (8, .sl r.nl (r.l.map S_Span.D) (zsl r.nl 2) none), (7, I ((r.l.length : Nat) : Int)), (0, .sl r.nl (r.l.map S_Span.D) (zsl r.nl 2) none), (3, I ((r.l.length : Nat) : Int))], [], 0, 0⟩

def sd8 (r : GS S_Span) (i4 : Nat) (x4 : S_Span) : St := ⟨57, [(2, B false), (39, B true), (38, .tup []), (37, .tup []), (36, .tup []), (35, .tup []), (34, .tup []), (33, .tup []), (32, B true), (31, B true), (30, .tup []), (29, .tup []), (28, .tup []), (27, .tup []), (26, .tup []), (25, .tup []), (24, B true), (23, B true), (22, I x4.hi), (21, .ptr (I x4.hi)), (20, .ptr (.agg [I x4.lo, I x4.hi])), (19, I ((i4 : Nat) : Int)), (18, .sl r.nl (r.l.map S_Span.D) (zsl r.nl 2) none), (17, I x4.lo), (16, .ptr (I x4.lo)), (15, .ptr (.agg [I x4.lo, I x4.hi])), (14, I ((i4 : Nat) : Int)), (13, .sl r.nl (r.l.map S_Span.D) (zsl r.nl 2) none), (10, B true), (9, I ((r.l.length : Nat) : Int)), (8, .sl r.nl (r.l.map S_Span.D) (zsl r.nl 2) none), (7, I ((i4 : Nat) : Int)), (0, .sl r.nl (r.l.map S_Span.D) (zsl r.nl 2) none), (3, I ((i4 : Nat) : Int))], [], 0, 0⟩

def sd9 (r : GS S_Span) (i4 : Nat) (x4 : S_Span) : St := ⟨57, [(2, B false), (39, B true), (38, .tup []), (37, .tup []), (36, .tup []), (35, .tup []), (34, .tup []), (33, .tup []), (32, B true), (31, B true), (30, B true), (29, I x4.lo), (28, .ptr (I x4.lo)), (27, .ptr (.agg [I x4.lo, I x4.hi])), (26, I ((i4 : Nat) : Int)), (25, .sl r.nl (r.l.map S_Span.D) (zsl r.nl 2) none), (24, B false), (23, B false), (22, I x4.hi), (21, .ptr (I x4.hi)), (20, .ptr (.agg [I x4.lo, I x4.hi])), (19, I ((i4 : Nat) : Int)), (18, .sl r.nl (r.l.map S_Span.D) (zsl r.nl 2) none), (17, I x4.lo), (16, .ptr (I x4.lo)), (15, .ptr (.agg [I x4.lo, I x4.hi])), (14, I ((i4 : Nat) : Int)), (13, .sl r.nl (r.l.map S_Span.D) (zsl r.nl 2) none), (10, B true), (9, I ((r.l.length : Nat) : Int)), (8, .sl r.nl (r.l.map S_Span.D) (zsl r.nl 2) none), (7, I ((i4 : Nat) : Int)), (0, .sl r.nl (r.l.map S_Span.D) (zsl r.nl 2) none), (3, I ((i4 : Nat) : Int))], [], 0, 0⟩

def sd10 (r : GS S_Span) (i4 : Nat) (x4 : S_Span) : St := ⟨57, [(2, B false), (39, B true), (38, B true), (37, I x4.hi), (36, .ptr (I x4.hi)), (35, .ptr (.agg [I x4.lo, I x4.hi])), (34, I ((i4 : Nat) : Int)), (33, .sl r.nl (r.l.map S_Span.D) (zsl r.nl 2) none), (32, B false), (31, B false), (30, B false), (29, I x4.lo), (28, .ptr (I x4.lo)), (27, .ptr (.agg [I x4.lo, I x4.hi])), (26, I ((i4 : Nat) : Int)), (25, .sl r.nl (r.l.map S_Span.D) (zsl r.nl 2) none), (24, B false), (23, B false), (22, I x4.hi), (21, .ptr (I x4.hi)), (20, .ptr (.agg [I x4.lo, I x4.hi])), (19, I ((i4 : Nat) : Int)), (18, .sl r.nl (r.l.map S_Span.D) (zsl r.nl 2) none), (17, I x4.lo), (16, .ptr (I x4.lo)), (15, .ptr (.agg [I x4.lo, I x4.hi])), (14, I ((i4 : Nat) : Int)), (13, .sl r.nl (r.l.map S_Span.D) (zsl r.nl 2) none), (10, B true), (9, I ((r.l.length : Nat) : Int)), (8, .sl r.nl (r.l.map S_Span.D) (zsl r.nl 2) none), (7, I ((i4 : Nat) : Int)), (0, .sl r.nl (r.l.map S_Span.D) (zsl r.nl 2) none), (3, I ((i4 : Nat) : Int))], [], 0, 0⟩

def sd11 (r : GS S_Span) (i4 : Nat) (x4 : S_Span) : St := ⟨57, [(2, B false), (56, B true), (55, B true), (54, I x4.lo), (53, .ptr (I x4.lo)), (52, .ptr (.agg [I x4.lo, I x4.hi])), (51, I ((i4 : Nat) : Int)), (50, .sl r.nl (r.l.map S_Span.D) (zsl r.nl 2) none), (49, I (w64 (((GS.at r (w64 (((i4 : Nat) : Int) - 1))).hi) + 1))), (48, I ((GS.at r (w64 (((i4 : Nat) : Int) - 1))).hi)), (47, .ptr (I ((GS.at r (w64 (((i4 : Nat) : Int) - 1))).hi))), (46, .ptr (.agg [I ((GS.at r (w64 (((i4 : Nat) : Int) - 1))).lo), I ((GS.at r (w64 (((i4 : Nat) : Int) - 1))).hi)])), (45, I (w64 (((i4 : Nat) : Int) - 1))), (44, I ((i4 : Nat) : Int)), (43, .sl r.nl (r.l.map S_Span.D) (zsl r.nl 2) none), (42, B true), (41, B true), (40, I ((i4 : Nat) : Int)), (39, B false), (38, B false), (37, I x4.hi), (36, .ptr (I x4.hi)), (35, .ptr (.agg [I x4.lo, I x4.hi])), (34, I ((i4 : Nat) : Int)), (33, .sl r.nl (r.l.map S_Span.D) (zsl r.nl 2) none), (32, B false), (31, B false), (30, B false), (29, I x4.lo), (28, .ptr (I x4.lo)), (27, .ptr (.agg [I x4.lo, I x4.hi])), (26, I ((i4 : Nat) : Int)), (25, .sl r.nl (r.l.map S_Span.D) (zsl r.nl 2) none), (24, B false), (23, B false), (22, I x4.hi), (21, .ptr (I x4.hi)), (20, .ptr (.agg [I x4.lo, I x4.hi])), (19, I ((i4 : Nat) : Int)), (18, .sl r.nl (r.l.map S_Span.D) (zsl r.nl 2) none), (17, I x4.lo), (16, .ptr (I x4.lo)), (15, .ptr (.agg [I x4.lo, I x4.hi])), (14, I ((i4 : Nat) : Int)), (13, .sl r.nl (r.l.map S_Span.D) (zsl r.nl 2) none), (10, B true), (9, I ((r.l.length : Nat) : Int)), (8, .sl r.nl (r.l.map S_Span.D) (zsl r.nl 2) none), (7, I ((i4 : Nat) : Int)), (0, .sl r.nl (r.l.map S_Span.D) (zsl r.nl 2) none), (3, I ((i4 : Nat) : Int))], [], 0, 0⟩

theorem T_r_Valid (r : GS S_Span) (hL_r : r.l.length ≤ 9223372036854775807) : (lim cfg).pure 32 [GS.D S_Span.D 2 r] = some (B (zF r)) := by
  unfold zF
  cases h1 : decide (((r.l.length : Nat) : Int) > 64) with
  | true =>
    have g1 := of_decide_eq_true h1
    exact ze [.rw 5 (I ((r.l.length : Nat) : Int)), .dec true] (And.intro h1 (And.intro (zb S_Span.D r) trivial)) (by kernel_rfl)
  | false =>
    have g1 := of_decide_eq_false h1
    cases h12 : r_Valid_4 r r.l 0 with
    | x0 =>
      try dsimp only
      exact ze [.rw 5 (I ((r.l.length : Nat) : Int)), .dec false, .loop (.exit 0) (sd7 r)] (And.intro (po_lr (q := lr_r_Valid_4 r) (lp_r_Valid_4 r r.l 0 (List.drop_zero) (Nat.zero_le _) (by omega)) h12) (And.intro h1 (And.intro (zb S_Span.D r) trivial))) (by kernel_rfl)
    | x1 i4 x4 =>
      try dsimp only
      exact ze [.rw 5 (I ((r.l.length : Nat) : Int)), .dec false, .loop .ret (sd8 r i4 x4)] (And.intro (po_lr (q := lr_r_Valid_4 r) (lp_r_Valid_4 r r.l 0 (List.drop_zero) (Nat.zero_le _) (by omega)) h12) (And.intro h1 (And.intro (zb S_Span.D r) trivial))) (by kernel_rfl)
    | x2 i4 x4 =>
      try dsimp only
      exact ze [.rw 5 (I ((r.l.length : Nat) : Int)), .dec false, .loop .ret (sd9 r i4 x4)] (And.intro (po_lr (q := lr_r_Valid_4 r) (lp_r_Valid_4 r r.l 0 (List.drop_zero) (Nat.zero_le _) (by omega)) h12) (And.intro h1 (And.intro (zb S_Span.D r) trivial))) (by kernel_rfl)
    | x3 i4 x4 =>
      try dsimp only
      exact ze [.rw 5 (I ((r.l.length : Nat) : Int)), .dec false, .loop .ret (sd10 r i4 x4)] (And.intro (po_lr (q := lr_r_Valid_4 r) (lp_r_Valid_4 r r.l 0 (List.drop_zero) (Nat.zero_le _) (by omega)) h12) (And.intro h1 (And.intro (zb S_Span.D r) trivial))) (by kernel_rfl)
    | x4 i4 x4 =>
      try dsimp only
      exact ze [.rw 5 (I ((r.l.length : Nat) : Int)), .dec false, .loop .ret (sd11 r i4 x4)] (And.intro (po_lr (q := lr_r_Valid_4 r) (lp_r_Valid_4 r r.l 0 (List.drop_zero) (Nat.zero_le _) (by omega)) h12) (And.intro h1 (And.intro (zb S_Span.D r) trivial))) (by kernel_rfl)

def r_Check (r : GS S_Span) : Int :=
  bif (zF r) then
    0
  else
    20

theorem T_r_Check (r : GS S_Span) (hL_r : r.l.length ≤ 9223372036854775807) : (lim cfg).pure 48 [GS.D S_Span.D 2 r] = some (I (r_Check r)) := by
  unfold r_Check
  cases h1 : (zF r) with
  | true =>
    exact ze [.pure (B (zF r)), .dec true] (And.intro h1 (And.intro (T_r_Valid r (by omega)) trivial)) (by kernel_rfl)
  | false =>
    exact ze [.pure (B (zF r)), .dec false] (And.intro h1 (And.intro (T_r_Valid r (by omega)) trivial)) (by kernel_rfl)

noncomputable def lp34_4 : Code := subC [1, 1, 0, 1, 0, 0] (bodyC Tryz.f34)

inductive LR_r_Same_4 where
  | x0
  | x1 (i4 : Nat) (x4 : S_Span)
instance : Inhabited LR_r_Same_4 := ⟨.x0⟩
def r_Same_4 (b : GS S_Span) : List S_Span → Nat → LR_r_Same_4
  | [], i4 => .x0
  | x4 :: zR, i4 =>
    bif (!((x4.lo == ((GS.at b ((i4 : Nat) : Int)).lo)) && ((x4.hi == ((GS.at b ((i4 : Nat) : Int)).hi)) && true))) then
      .x1 i4 x4
    else
      r_Same_4 b zR (i4 + 1)
def lr_r_Same_4 (a : GS S_Span) (b : GS S_Span) : LR_r_Same_4 → Exit × St
  | .x0 => ((.exit 0), ⟨26, [(14, B false), (13, I ((a.l.length : Nat) : Int)), (12, .sl a.nl (a.l.map S_Span.D) (zsl a.nl 2) none), (11, I ((a.l.length : Nat) : Int)), (0, .sl a.nl (a.l.map S_Span.D) (zsl a.nl 2) none), (1, .sl b.nl (b.l.map S_Span.D) (zsl b.nl 2) none), (5, I ((a.l.length : Nat) : Int))], [], 0, 0⟩)
  | .x1 i4 x4 => (.ret, ⟨26, [(4, B false), (25, B true), (24, .agg [I ((GS.at b ((i4 : Nat) : Int)).lo), I ((GS.at b ((i4 : Nat) : Int)).hi)]), (23, .ptr (.agg [I ((GS.at b ((i4 : Nat) : Int)).lo), I ((GS.at b ((i4 : Nat) : Int)).hi)])), (22, I ((i4 : Nat) : Int)), (21, .sl b.nl (b.l.map S_Span.D) (zsl b.nl 2) none), (20, .agg [I x4.lo, I x4.hi]), (19, .ptr (.agg [I x4.lo, I x4.hi])), (18, I ((i4 : Nat) : Int)), (17, .sl a.nl (a.l.map S_Span.D) (zsl a.nl 2) none), (14, B true), (13, I ((a.l.length : Nat) : Int)), (12, .sl a.nl (a.l.map S_Span.D) (zsl a.nl 2) none), (11, I ((i4 : Nat) : Int)), (0, .sl a.nl (a.l.map S_Span.D) (zsl a.nl 2) none), (1, .sl b.nl (b.l.map S_Span.D) (zsl b.nl 2) none), (5, I ((i4 : Nat) : Int))], [], 0, 0⟩)
theorem lp_r_Same_4 (a : GS S_Span) (b : GS S_Span) : ∀ (zR : List S_Span) (i4 : Nat) (hd4 : a.l.drop i4 = zR) (hi4 : i4 ≤ a.l.length) (hq : a.l.length = b.l.length) (hL4 : a.l.length ≤ 9223372036854775807), (lim cfg).loop 34 lp34_4 ⟨26, [(0, .sl a.nl (a.l.map S_Span.D) (zsl a.nl 2) none), (1, .sl b.nl (b.l.map S_Span.D) (zsl b.nl 2) none), (5, I ((i4 : Nat) : Int))], [], 0, 0⟩ = some (lr_r_Same_4 a b (r_Same_4 b zR i4)) := by
  intro zR
  induction zR with
  | nil =>
    intro i4 hd4 hi4 hq hL4
    unfold r_Same_4
    obtain rfl : i4 = a.l.length := nil_eq hd4 hi4
    exact zI [.rw 13 (I ((a.l.length : Nat) : Int)), .dec false] (And.intro (lt_no hd4) (And.intro (zb S_Span.D a) trivial)) (by kernel_rfl)
  | cons x4 zR ih =>
    intro i4 hd4 hi4 hq hL4
    have hlt4 := zk hd4
    unfold r_Same_4
    cases h3 : (!((x4.lo == ((GS.at b ((i4 : Nat) : Int)).lo)) && ((x4.hi == ((GS.at b ((i4 : Nat) : Int)).hi)) && true))) with
    | true =>
      exact zI [.rw 13 (I ((a.l.length : Nat) : Int)), .dec true, .el (.agg [I x4.lo, I x4.hi]), .el (.agg [I ((GS.at b ((i4 : Nat) : Int)).lo), I ((GS.at b ((i4 : Nat) : Int)).hi)]), .dec true] (And.intro h3 (And.intro (el_in (s := b) (f := S_Span.D) (k := 2) (i := ((i4 : Nat) : Int)) (by omega) (by omega)) (And.intro (el_at (s := a) (f := S_Span.D) (k := 2) hd4) (And.intro (lt_at hd4) (And.intro (zb S_Span.D a) trivial))))) (by kernel_rfl)
    | false =>
      exact po_turn [.rw 13 (I ((a.l.length : Nat) : Int)), .dec true, .el (.agg [I x4.lo, I x4.hi]), .el (.agg [I ((GS.at b ((i4 : Nat) : Int)).lo), I ((GS.at b ((i4 : Nat) : Int)).hi)]), .dec false, .rw 16 (I ((i4 + 1 : Nat) : Int))] (And.intro (inc_rw (i := i4) (by have := zk hd4; omega)) (And.intro h3 (And.intro (el_in (s := b) (f := S_Span.D) (k := 2) (i := ((i4 : Nat) : Int)) (by omega) (by omega)) (And.intro (el_at (s := a) (f := S_Span.D) (k := 2) hd4) (And.intro (lt_at hd4) (And.intro (zb S_Span.D a) trivial)))))) (ih (i4 + 1) (zp hd4) (zk hd4) (by omega) (by omega)) (by kernel_rfl)

def r_Same (a : GS S_Span) (b : GS S_Span) : Bool :=
  bif (((a.l.length : Nat) : Int) != ((b.l.length : Nat) : Int)) then
    false
  else
    match r_Same_4 b a.l 0 with
    | .x0 =>
      true
    | .x1 i4 x4 =>
      false

def sd12 (a : GS S_Span) (b : GS S_Span) : St := ⟨26, [(14, B false), (13, I ((a.l.length : Nat) : Int)), (12, .sl a.nl (a.l.map S_Span.D) (zsl a.nl 2) none), (11, I ((a.l.length : Nat) : Int)), (0, .sl a.nl (a.l.map S_Span.D) (zsl a.nl 2) none), (1, .sl b.nl (b.l.map S_Span.D) (zsl b.nl 2) none), (5, I ((a.l.length : Nat) : Int))], [], 0, 0⟩

def sd13 (a : GS S_Span) (b : GS S_Span) (i4 : Nat) (x4 : S_Span) : St := ⟨26, [(4, B false), (25, B true), (24, .agg [I ((GS.at b ((i4 : Nat) : Int)).lo), I ((GS.at b ((i4 : Nat) : Int)).hi)]), (23, .ptr (.agg [I ((GS.at b ((i4 : Nat) : Int)).lo), I ((GS.at b ((i4 : Nat) : Int)).hi)])), (22, I ((i4 : Nat) : Int)), (21, .sl b.nl (b.l.map S_Span.D) (zsl b.nl 2) none), (20, .agg [I x4.lo, I x4.hi]), (19, .ptr (.agg [I x4.lo, I x4.hi])), (18, I ((i4 : Nat) : Int)), (17, .sl a.nl (a.l.map S_Span.D) (zsl a.nl 2) none), (14, B true), (13, I ((a.l.length : Nat) : Int)), (12, .sl a.nl (a.l.map S_Span.D) (zsl a.nl 2) none), (11, I ((i4 : Nat) : Int)), (0, .sl a.nl (a.l.map S_Span.D) (zsl a.nl 2) none), (1, .sl b.nl (b.l.map S_Span.D) (zsl b.nl 2) none), (5, I ((i4 : Nat) : Int))], [], 0, 0⟩

theorem T_r_Same (a : GS S_Span) (b : GS S_Span) (hL_a : a.l.length ≤ 9223372036854775807) : (lim cfg).pure 34 [GS.D S_Span.D 2 a, GS.D S_Span.D 2 b] = some (B (r_Same a b)) := by
  unfold r_Same
  cases h1 : (((a.l.length : Nat) : Int) != ((b.l.length : Nat) : Int)) with
  | true =>
    have g1 := bne_true h1
    exact ze [.rw 7 (I ((a.l.length : Nat) : Int)), .rw 9 (I ((b.l.length : Nat) : Int)), .dec true] (And.intro h1 (And.intro (zb S_Span.D b) (And.intro (zb S_Span.D a) trivial))) (by kernel_rfl)
  | false =>
    have g1 := bne_false h1
    cases h4 : r_Same_4 b a.l 0 with
    | x0 =>
      try dsimp only
      exact ze [.rw 7 (I ((a.l.length : Nat) : Int)), .rw 9 (I ((b.l.length : Nat) : Int)), .dec false, .loop (.exit 0) (sd12 a b)] (And.intro (po_lr (q := lr_r_Same_4 a b) (lp_r_Same_4 a b a.l 0 (List.drop_zero) (Nat.zero_le _) (by omega) (by omega)) h4) (And.intro h1 (And.intro (zb S_Span.D b) (And.intro (zb S_Span.D a) trivial)))) (by kernel_rfl)
    | x1 i4 x4 =>
      try dsimp only
      exact ze [.rw 7 (I ((a.l.length : Nat) : Int)), .rw 9 (I ((b.l.length : Nat) : Int)), .dec false, .loop .ret (sd13 a b i4 x4)] (And.intro (po_lr (q := lr_r_Same_4 a b) (lp_r_Same_4 a b a.l 0 (List.drop_zero) (Nat.zero_le _) (by omega) (by omega)) h4) (And.intro h1 (And.intro (zb S_Span.D b) (And.intro (zb S_Span.D a) trivial)))) (by kernel_rfl)

noncomputable def lp50_6 : Code := subC [1, 1, 1, 0, 1, 0, 0] (bodyC Tryz.f50)

inductive LR_ranges_Size_6 where
  | x0 (v6_0 : Int)
instance : Inhabited LR_ranges_Size_6 := ⟨.x0 default⟩
def ranges_Size_6 : List S_Span → Int → LR_ranges_Size_6
  | [], v6_0 => .x0 v6_0
  | x6 :: rest6, v6_0 =>
    ranges_Size_6 rest6 (w64 (v6_0 + (w64 ((w64 (x6.hi - x6.lo)) + 1))))
def lr_ranges_Size_6 (r : GS S_Span) : LR_ranges_Size_6 → Exit × St
  | .x0 v6_0 => ((.exit 0), ⟨29, [(16, B false), (5, I v6_0), (13, .sl r.nl (r.l.map S_Span.D) (zsl r.nl 2) none), (14, I ((r.l.length : Nat) : Int)), (15, I ((r.l.length : Nat) : Int))], [], 0, 0⟩)
theorem lp_ranges_Size_6 (r : GS S_Span) : ∀ (rest6 : List S_Span) (i6 : Nat) (v6_0 : Int) (hd6 : r.l.drop i6 = rest6) (hi6 : i6 ≤ r.l.length) (hL6 : r.l.length ≤ 9223372036854775807), (lim cfg).loop 50 lp50_6 ⟨29, [(5, I v6_0), (13, .sl r.nl (r.l.map S_Span.D) (zsl r.nl 2) none), (14, I ((r.l.length : Nat) : Int)), (15, I ((i6 : Nat) : Int))], [], 0, 0⟩ = some (lr_ranges_Size_6 r (ranges_Size_6 rest6 v6_0)) := by
  intro rest6
  induction rest6 with
  | nil =>
    intro i6 v6_0 hd6 hi6 hL6
    unfold ranges_Size_6
    obtain rfl : i6 = r.l.length := nil_eq hd6 hi6
    exact zI [.dec false] (And.intro (lt_no hd6) trivial) (by kernel_rfl)
  | cons x6 rest6 ih =>
    intro i6 v6_0 hd6 hi6 hL6
    have hlt6 := zk hd6
    unfold ranges_Size_6
    exact po_turn [.dec true, .el (.agg [I x6.lo, I x6.hi]), .rw 27 (I ((i6 + 1 : Nat) : Int))] (And.intro (inc_rw (i := i6) (by have := zk hd6; omega)) (And.intro (el_at (s := r) (f := S_Span.D) (k := 2) hd6) (And.intro (lt_at hd6) trivial))) (ih (i6 + 1) (w64 (v6_0 + (w64 ((w64 (x6.hi - x6.lo)) + 1)))) (zp hd6) (zk hd6) (by omega)) (by kernel_rfl)

def ranges_Size (r : GS S_Span) : Int × Int :=
  bif ((zg r) != 0) then
    (0, (zg r))
  else
    match ranges_Size_6 r.l 0 with
    | .x0 v6_0 =>
      (v6_0, 0)

def sd14 (r : GS S_Span) (v6_0 : Int) : St := ⟨29, [(16, B false), (5, I v6_0), (13, .sl r.nl (r.l.map S_Span.D) (zsl r.nl 2) none), (14, I ((r.l.length : Nat) : Int)), (15, I ((r.l.length : Nat) : Int))], [], 0, 0⟩

theorem T_ranges_Size (r : GS S_Span) (hL_r : r.l.length ≤ 9223372036854775807) : (lim cfg).pure 50 [GS.D S_Span.D 2 r] = some (.tup [I ((ranges_Size r).1), I ((ranges_Size r).2)]) := by
  unfold ranges_Size
  cases h1 : ((zg r) != 0) with
  | true =>
    have g1 := bne_true h1
    exact ze [.pure (I (zg r)), .dec true] (And.intro h1 (And.intro (zw r (by omega)) trivial)) (by kernel_rfl)
  | false =>
    have g1 := bne_false h1
    cases h2 : ranges_Size_6 r.l 0 with
    | x0 v6_0 =>
      try dsimp only
      exact ze [.pure (I (zg r)), .dec false, .rw 14 (I ((r.l.length : Nat) : Int)), .loop (.exit 0) (sd14 r v6_0)] (And.intro (po_lr (q := lr_ranges_Size_6 r) (lp_ranges_Size_6 r r.l 0 0 (List.drop_zero) (Nat.zero_le _) (by omega)) h2) (And.intro (zb S_Span.D r) (And.intro h1 (And.intro (zw r (by omega)) trivial)))) (by kernel_rfl)

def zG (r : GS S_Span) : S_Span × Int :=
  bif ((zg r) != 0) then
    ((⟨0, 0⟩ : S_Span), (zg r))
  else
    bif (((r.l.length : Nat) : Int) == 0) then
      ((⟨0, 0⟩ : S_Span), 4)
    else
      ((⟨(GS.at r 0).lo, (GS.at r (w64 (((r.l.length : Nat) : Int) - 1))).hi⟩ : S_Span), 0)

theorem T_ranges_Hull (r : GS S_Span) (hL_r : r.l.length ≤ 9223372036854775807) : (lim cfg).pure 41 [GS.D S_Span.D 2 r] = some (.tup [S_Span.D ((zG r).1), I ((zG r).2)]) := by
  unfold zG
  cases h1 : ((zg r) != 0) with
  | true =>
    have g1 := bne_true h1
    exact ze [.pure (I (zg r)), .dec true] (And.intro h1 (And.intro (zw r (by omega)) trivial)) (by kernel_rfl)
  | false =>
    have g1 := bne_false h1
    cases h2 : (((r.l.length : Nat) : Int) == 0) with
    | true =>
      have g2 := eq_of_beq h2
      exact ze [.pure (I (zg r)), .dec false, .rw 12 (I ((r.l.length : Nat) : Int)), .dec true] (And.intro h2 (And.intro (zb S_Span.D r) (And.intro h1 (And.intro (zw r (by omega)) trivial)))) (by kernel_rfl)
    | false =>
      have g2 := ne_of_beq_false h2
      exact ze [.pure (I (zg r)), .dec false, .rw 12 (I ((r.l.length : Nat) : Int)), .dec false, .el (.agg [I ((GS.at r 0).lo), I ((GS.at r 0).hi)]), .rw 21 (I ((r.l.length : Nat) : Int)), .el (.agg [I ((GS.at r (w64 (((r.l.length : Nat) : Int) - 1))).lo), I ((GS.at r (w64 (((r.l.length : Nat) : Int) - 1))).hi)])] (And.intro (el_in (s := r) (f := S_Span.D) (k := 2) (i := w64 (((r.l.length : Nat) : Int) - 1)) (by simp only [List.length_append, List.length_cons, List.length_nil, za] at * <;> omega) (by simp only [List.length_append, List.length_cons, List.length_nil, za] at * <;> omega)) (And.intro (zb S_Span.D r) (And.intro (el_in (s := r) (f := S_Span.D) (k := 2) (i := 0) (by omega) (by omega)) (And.intro h2 (And.intro (zb S_Span.D r) (And.intro h1 (And.intro (zw r (by omega)) trivial))))))) (by kernel_rfl)

noncomputable def lp42_5 : Code := subC [1, 1, 0, 1, 0, 0] (bodyC Tryz.f42)

inductive LR_ranges_Next_5 where
  | x0
  | x1 (i5 : Nat) (x5 : S_Span)
  | x2 (i5 : Nat) (x5 : S_Span)
instance : Inhabited LR_ranges_Next_5 := ⟨.x0⟩
def ranges_Next_5 (n : Int) : List S_Span → Nat → LR_ranges_Next_5
  | [], i5 => .x0
  | x5 :: rest5, i5 =>
    bif decide (n < x5.hi) then
      bif decide (n < x5.lo) then
        .x1 i5 x5
      else
        .x2 i5 x5
    else
      ranges_Next_5 n rest5 (i5 + 1)
def lr_ranges_Next_5 (r : GS S_Span) (n : Int) : LR_ranges_Next_5 → Exit × St
  | .x0 => ((.exit 0), ⟨34, [(18, B false), (1, I n), (15, .sl r.nl (r.l.map S_Span.D) (zsl r.nl 2) none), (16, I ((r.l.length : Nat) : Int)), (17, I ((r.l.length : Nat) : Int))], [], 0, 0⟩)
  | .x1 i5 x5 => (.ret, ⟨34, [(6, I 0), (5, B true), (4, I x5.lo), (30, I x5.lo), (29, .lref 0 0 2 0), (28, B true), (27, I x5.lo), (26, .lref 0 0 2 0), (25, I n), (24, B true), (23, I x5.hi), (22, .lref 0 0 2 1), (21, I n), (9, .lref 0 0 2 0), (20, .agg [I x5.lo, I x5.hi]), (19, .ptr (.agg [I x5.lo, I x5.hi])), (18, B true), (1, I n), (15, .sl r.nl (r.l.map S_Span.D) (zsl r.nl 2) none), (16, I ((r.l.length : Nat) : Int)), (17, I ((i5 : Nat) : Int))], [(0, ⟨[.agg [I x5.lo, I x5.hi]], 2, false⟩)], 1, 0⟩)
  | .x2 i5 x5 => (.ret, ⟨34, [(6, I 0), (5, B true), (4, I (w64 (n + 1))), (32, I (w64 (n + 1))), (31, I n), (28, B false), (27, I x5.lo), (26, .lref 0 0 2 0), (25, I n), (24, B true), (23, I x5.hi), (22, .lref 0 0 2 1), (21, I n), (9, .lref 0 0 2 0), (20, .agg [I x5.lo, I x5.hi]), (19, .ptr (.agg [I x5.lo, I x5.hi])), (18, B true), (1, I n), (15, .sl r.nl (r.l.map S_Span.D) (zsl r.nl 2) none), (16, I ((r.l.length : Nat) : Int)), (17, I ((i5 : Nat) : Int))], [(0, ⟨[.agg [I x5.lo, I x5.hi]], 2, false⟩)], 1, 0⟩)
theorem lp_ranges_Next_5 (r : GS S_Span) (n : Int) : ∀ (rest5 : List S_Span) (i5 : Nat) (hd5 : r.l.drop i5 = rest5) (hi5 : i5 ≤ r.l.length) (hL5 : r.l.length ≤ 9223372036854775807), (lim cfg).loop 42 lp42_5 ⟨34, [(1, I n), (15, .sl r.nl (r.l.map S_Span.D) (zsl r.nl 2) none), (16, I ((r.l.length : Nat) : Int)), (17, I ((i5 : Nat) : Int))], [], 0, 0⟩ = some (lr_ranges_Next_5 r n (ranges_Next_5 n rest5 i5)) := by
  intro rest5
  induction rest5 with
  | nil =>
    intro i5 hd5 hi5 hL5
    unfold ranges_Next_5
    obtain rfl : i5 = r.l.length := nil_eq hd5 hi5
    exact zI [.dec false] (And.intro (lt_no hd5) trivial) (by kernel_rfl)
  | cons x5 rest5 ih =>
    intro i5 hd5 hi5 hL5
    have hlt5 := zk hd5
    unfold ranges_Next_5
    have p1 := (el_at (s := r) (f := S_Span.D) (k := 2) hd5)
    cases h4 : decide (n < x5.hi) with
    | true =>
      have g4 := of_decide_eq_true h4
      cases h5 : decide (n < x5.lo) with
      | true =>
        have g5 := of_decide_eq_true h5
        exact zI [.dec true, .el (.agg [I x5.lo, I x5.hi]), .dec true, .dec true] (And.intro h5 (And.intro h4 (And.intro p1 (And.intro (lt_at hd5) trivial)))) (by kernel_rfl)
      | false =>
        have g5 := of_decide_eq_false h5
        exact zI [.dec true, .el (.agg [I x5.lo, I x5.hi]), .dec true, .dec false] (And.intro h5 (And.intro h4 (And.intro p1 (And.intro (lt_at hd5) trivial)))) (by kernel_rfl)
    | false =>
      have g4 := of_decide_eq_false h4
      exact po_turn [.dec true, .el (.agg [I x5.lo, I x5.hi]), .dec false, .rw 33 (I ((i5 + 1 : Nat) : Int))] (And.intro (inc_rw (i := i5) (by have := zk hd5; omega)) (And.intro h4 (And.intro p1 (And.intro (lt_at hd5) trivial)))) (ih (i5 + 1) (zp hd5) (zk hd5) (by omega)) (by kernel_rfl)

def zz (r : GS S_Span) (n : Int) : Int × Bool × Int :=
  bif ((zg r) != 0) then
    (0, false, (zg r))
  else
    match ranges_Next_5 n r.l 0 with
    | .x0 =>
      (0, false, 0)
    | .x1 i5 x5 =>
      (x5.lo, true, 0)
    | .x2 i5 x5 =>
      (w64 (n + 1), true, 0)

def sd15 (r : GS S_Span) (n : Int) : St := ⟨34, [(18, B false), (1, I n), (15, .sl r.nl (r.l.map S_Span.D) (zsl r.nl 2) none), (16, I ((r.l.length : Nat) : Int)), (17, I ((r.l.length : Nat) : Int))], [], 0, 0⟩

def sd16 (r : GS S_Span) (n : Int) (i5 : Nat) (x5 : S_Span) : St := ⟨34, [(6, I 0), (5, B true), (4, I x5.lo), (30, I x5.lo), (29, .lref 0 0 2 0), (28, B true), (27, I x5.lo), (26, .lref 0 0 2 0), (25, I n), (24, B true), (23, I x5.hi), (22, .lref 0 0 2 1), (21, I n), (9, .lref 0 0 2 0), (20, .agg [I x5.lo, I x5.hi]), (19, .ptr (.agg [I x5.lo, I x5.hi])), (18, B true), (1, I n), (15, .sl r.nl (r.l.map S_Span.D) (zsl r.nl 2) none), (16, I ((r.l.length : Nat) : Int)), (17, I ((i5 : Nat) : Int))], [(0, ⟨[.agg [I x5.lo, I x5.hi]], 2, false⟩)], 1, 0⟩

def sd17 (r : GS S_Span) (n : Int) (i5 : Nat) (x5 : S_Span) : St := ⟨34, [(6, I 0), (5, B true), (4, I (w64 (n + 1))), (32, I (w64 (n + 1))), (31, I n), (28, B false), (27, I x5.lo), (26, .lref 0 0 2 0), (25, I n), (24, B true), (23, I x5.hi), (22, .lref 0 0 2 1), (21, I n), (9, .lref 0 0 2 0), (20, .agg [I x5.lo, I x5.hi]), (19, .ptr (.agg [I x5.lo, I x5.hi])), (18, B true), (1, I n), (15, .sl r.nl (r.l.map S_Span.D) (zsl r.nl 2) none), (16, I ((r.l.length : Nat) : Int)), (17, I ((i5 : Nat) : Int))], [(0, ⟨[.agg [I x5.lo, I x5.hi]], 2, false⟩)], 1, 0⟩

theorem T_ranges_Next (r : GS S_Span) (n : Int) (hL_r : r.l.length ≤ 9223372036854775807) : (lim cfg).pure 42 [GS.D S_Span.D 2 r, I n] = some (.tup [I ((zz r n).1), B ((zz r n).2.1), I ((zz r n).2.2)]) := by
  unfold zz
  cases h1 : ((zg r) != 0) with
  | true =>
    have g1 := bne_true h1
    exact ze [.pure (I (zg r)), .dec true] (And.intro h1 (And.intro (zw r (by omega)) trivial)) (by kernel_rfl)
  | false =>
    have g1 := bne_false h1
    cases h6 : ranges_Next_5 n r.l 0 with
    | x0 =>
      try dsimp only
      exact ze [.pure (I (zg r)), .dec false, .rw 16 (I ((r.l.length : Nat) : Int)), .loop (.exit 0) (sd15 r n)] (And.intro (po_lr (q := lr_ranges_Next_5 r n) (lp_ranges_Next_5 r n r.l 0 (List.drop_zero) (Nat.zero_le _) (by omega)) h6) (And.intro (zb S_Span.D r) (And.intro h1 (And.intro (zw r (by omega)) trivial)))) (by kernel_rfl)
    | x1 i5 x5 =>
      try dsimp only
      exact ze [.pure (I (zg r)), .dec false, .rw 16 (I ((r.l.length : Nat) : Int)), .loop .ret (sd16 r n i5 x5)] (And.intro (po_lr (q := lr_ranges_Next_5 r n) (lp_ranges_Next_5 r n r.l 0 (List.drop_zero) (Nat.zero_le _) (by omega)) h6) (And.intro (zb S_Span.D r) (And.intro h1 (And.intro (zw r (by omega)) trivial)))) (by kernel_rfl)
    | x2 i5 x5 =>
      try dsimp only
      exact ze [.pure (I (zg r)), .dec false, .rw 16 (I ((r.l.length : Nat) : Int)), .loop .ret (sd17 r n i5 x5)] (And.intro (po_lr (q := lr_ranges_Next_5 r n) (lp_ranges_Next_5 r n r.l 0 (List.drop_zero) (Nat.zero_le _) (by omega)) h6) (And.intro (zb S_Span.D r) (And.intro h1 (And.intro (zw r (by omega)) trivial)))) (by kernel_rfl)

noncomputable def lp40_9 : Code := subC [1, 1, 1, 1, 1, 0, 1, 0, 0] (bodyC Tryz.f40)

inductive LR_ranges_Near_9 where
  | x0 (v9_0 : Int)
instance : Inhabited LR_ranges_Near_9 := ⟨.x0 default⟩
def ranges_Near_9 (q9_0 : Int) : List S_Span → Int → LR_ranges_Near_9
  | [], v9_0 => .x0 v9_0
  | x9 :: rest9, v9_0 =>
    bif decide ((zC (w64 ((imin (zC q9_0 x9.lo) x9.hi) - q9_0)) (w64 (q9_0 - (imin (zC q9_0 x9.lo) x9.hi)))) < (zC (w64 (v9_0 - q9_0)) (w64 (q9_0 - v9_0)))) then
      ranges_Near_9 q9_0 rest9 (imin (zC q9_0 x9.lo) x9.hi)
    else
      ranges_Near_9 q9_0 rest9 v9_0
def lr_ranges_Near_9 (r : GS S_Span) (q9_0 : Int) : LR_ranges_Near_9 → Exit × St
  | .x0 v9_0 => ((.exit 0), ⟨57, [(29, B false), (1, I q9_0), (7, I v9_0), (26, .sl r.nl (r.l.map S_Span.D) (zsl r.nl 2) none), (27, I ((r.l.length : Nat) : Int)), (28, I ((r.l.length : Nat) : Int))], [], 0, 0⟩)
theorem lp_ranges_Near_9 (r : GS S_Span) (q9_0 : Int) : ∀ (rest9 : List S_Span) (i9 : Nat) (v9_0 : Int) (hd9 : r.l.drop i9 = rest9) (hi9 : i9 ≤ r.l.length) (hL9 : r.l.length ≤ 9223372036854775807), (lim cfg).loop 40 lp40_9 ⟨57, [(1, I q9_0), (7, I v9_0), (26, .sl r.nl (r.l.map S_Span.D) (zsl r.nl 2) none), (27, I ((r.l.length : Nat) : Int)), (28, I ((i9 : Nat) : Int))], [], 0, 0⟩ = some (lr_ranges_Near_9 r q9_0 (ranges_Near_9 q9_0 rest9 v9_0)) := by
  intro rest9
  induction rest9 with
  | nil =>
    intro i9 v9_0 hd9 hi9 hL9
    unfold ranges_Near_9
    obtain rfl : i9 = r.l.length := nil_eq hd9 hi9
    exact zI [.dec false] (And.intro (lt_no hd9) trivial) (by kernel_rfl)
  | cons x9 rest9 ih =>
    intro i9 v9_0 hd9 hi9 hL9
    have hlt9 := zk hd9
    unfold ranges_Near_9
    cases h4 : decide ((zC (w64 ((imin (zC q9_0 x9.lo) x9.hi) - q9_0)) (w64 (q9_0 - (imin (zC q9_0 x9.lo) x9.hi)))) < (zC (w64 (v9_0 - q9_0)) (w64 (q9_0 - v9_0)))) with
    | true =>
      have g4 := of_decide_eq_true h4
      exact po_turn [.dec true, .el (.agg [I x9.lo, I x9.hi]), .dec true, .rw 55 (I ((i9 + 1 : Nat) : Int))] (And.intro (inc_rw (i := i9) (by have := zk hd9; omega)) (And.intro h4 (And.intro (el_at (s := r) (f := S_Span.D) (k := 2) hd9) (And.intro (lt_at hd9) trivial)))) (ih (i9 + 1) (imin (zC q9_0 x9.lo) x9.hi) (zp hd9) (zk hd9) (by omega)) (by kernel_rfl)
    | false =>
      have g4 := of_decide_eq_false h4
      exact po_turn [.dec true, .el (.agg [I x9.lo, I x9.hi]), .dec false, .rw 55 (I ((i9 + 1 : Nat) : Int))] (And.intro (inc_rw (i := i9) (by have := zk hd9; omega)) (And.intro h4 (And.intro (el_at (s := r) (f := S_Span.D) (k := 2) hd9) (And.intro (lt_at hd9) trivial)))) (ih (i9 + 1) v9_0 (zp hd9) (zk hd9) (by omega)) (by kernel_rfl)

def ranges_Near (r : GS S_Span) (n : Int) : Int × Int :=
  bif ((zg r) != 0) then
    (0, (zg r))
  else
    bif (((r.l.length : Nat) : Int) == 0) then
      (0, 4)
    else
      match ranges_Near_9 (imin (zC n (-2199023255552)) 2199023255552) r.l ((GS.at r 0).lo) with
      | .x0 v9_0 =>
        (v9_0, 0)

def sd18 (r : GS S_Span) (n : Int) (v9_0 : Int) : St := ⟨57, [(29, B false), (1, I (imin (zC n (-2199023255552)) 2199023255552)), (7, I v9_0), (26, .sl r.nl (r.l.map S_Span.D) (zsl r.nl 2) none), (27, I ((r.l.length : Nat) : Int)), (28, I ((r.l.length : Nat) : Int))], [], 0, 0⟩

def ranges_Near_o1 (r : GS S_Span) (n : Int) (v9_0 : Int) : List Ora := [.pure (I (zg r)), .dec false, .rw 17 (I ((r.l.length : Nat) : Int)), .dec false, .el (.agg [I ((GS.at r 0).lo), I ((GS.at r 0).hi)]), .rw 27 (I ((r.l.length : Nat) : Int)), .loop (.exit 0) (sd18 r n v9_0)]

theorem T_ranges_Near (r : GS S_Span) (n : Int) (hL_r : r.l.length ≤ 9223372036854775807) : (lim cfg).pure 40 [GS.D S_Span.D 2 r, I n] = some (.tup [I ((ranges_Near r n).1), I ((ranges_Near r n).2)]) := by
  unfold ranges_Near
  cases h1 : ((zg r) != 0) with
  | true =>
    have g1 := bne_true h1
    exact ze [.pure (I (zg r)), .dec true] (And.intro h1 (And.intro (zw r (by omega)) trivial)) (by kernel_rfl)
  | false =>
    have g1 := bne_false h1
    cases h2 : (((r.l.length : Nat) : Int) == 0) with
    | true =>
      have g2 := eq_of_beq h2
      exact ze [.pure (I (zg r)), .dec false, .rw 17 (I ((r.l.length : Nat) : Int)), .dec true] (And.intro h2 (And.intro (zb S_Span.D r) (And.intro h1 (And.intro (zw r (by omega)) trivial)))) (by kernel_rfl)
    | false =>
      have g2 := ne_of_beq_false h2
      have p1 := (el_in (s := r) (f := S_Span.D) (k := 2) (i := 0) (by omega) (by omega))
      cases h5 : ranges_Near_9 (imin (zC n (-2199023255552)) 2199023255552) r.l ((GS.at r 0).lo) with
      | x0 v9_0 =>
        try dsimp only
        exact ze ((ranges_Near_o1 r n v9_0) ++ []) (And.intro (po_lr (q := lr_ranges_Near_9 r (imin (zC n (-2199023255552)) 2199023255552)) (lp_ranges_Near_9 r (imin (zC n (-2199023255552)) 2199023255552) r.l 0 ((GS.at r 0).lo) (List.drop_zero) (Nat.zero_le _) (by omega)) h5) (And.intro (zb S_Span.D r) (And.intro p1 (And.intro h2 (And.intro (zb S_Span.D r) (And.intro h1 (And.intro (zw r (by omega)) trivial))))))) (by kernel_rfl)

def ranges_Has_1 (x : S_Span) (n : Int) : Bool :=
  bif (ranges_in n x.lo x.hi) then
    true
  else
    false

theorem T_ranges_Has_1 (x : S_Span) (n : Int) : (lim cfg).pure 95 [S_Span.D x, .ptr (I n)] = some (B (ranges_Has_1 x n)) := by
  unfold ranges_Has_1
  cases h1 : (ranges_in n x.lo x.hi) with
  | true =>
    exact ze [.pure (B (ranges_in n x.lo x.hi)), .dec true] (And.intro h1 (And.intro (T_ranges_in n x.lo x.hi) trivial)) (by kernel_rfl)
  | false =>
    exact ze [.pure (B (ranges_in n x.lo x.hi)), .dec false] (And.intro h1 (And.intro (T_ranges_in n x.lo x.hi) trivial)) (by kernel_rfl)

noncomputable def lp107_2 : Code := subC [1, 0, 1, 0, 0] (bodyC Tryz.f107)

inductive LR_idxHas_2 where
  | x0
  | x1 (i2 : Nat) (x2 : S_Span)
instance : Inhabited LR_idxHas_2 := ⟨.x0⟩
def idxHas_2 (n : Int) : List S_Span → Nat → LR_idxHas_2
  | [], i2 => .x0
  | x2 :: rest2, i2 =>
    bif (ranges_Has_1 x2 n) then
      .x1 i2 x2
    else
      idxHas_2 n rest2 (i2 + 1)
def lr_idxHas_2 (s : GS S_Span) (n : Int) : LR_idxHas_2 → Exit × St
  | .x0 => ((.exit 0), ⟨19, [(9, B false), (0, .sl s.nl (s.l.map S_Span.D) (zsl s.nl 2) none), (1, .fn (.func 95) [] [.ptr (I n)]), (7, I ((s.l.length : Nat) : Int)), (8, I ((s.l.length : Nat) : Int))], [], 0, 0⟩)
  | .x1 i2 x2 => (.ret, ⟨19, [(4, I ((i2 : Nat) : Int)), (17, I ((i2 : Nat) : Int)), (16, B true), (15, .agg [I x2.lo, I x2.hi]), (14, .ptr (.agg [I x2.lo, I x2.hi])), (13, I ((i2 : Nat) : Int)), (12, .sl s.nl (s.l.map S_Span.D) (zsl s.nl 2) none), (11, .fn (.func 95) [] [.ptr (I n)]), (5, I ((i2 : Nat) : Int)), (10, I ((i2 : Nat) : Int)), (9, B true), (0, .sl s.nl (s.l.map S_Span.D) (zsl s.nl 2) none), (1, .fn (.func 95) [] [.ptr (I n)]), (7, I ((s.l.length : Nat) : Int)), (8, I ((i2 : Nat) : Int))], [], 0, 0⟩)
theorem lp_idxHas_2 (s : GS S_Span) (n : Int) : ∀ (rest2 : List S_Span) (i2 : Nat) (hd2 : s.l.drop i2 = rest2) (hi2 : i2 ≤ s.l.length) (hL2 : s.l.length ≤ 9223372036854775807), (lim cfg).loop 107 lp107_2 ⟨19, [(0, .sl s.nl (s.l.map S_Span.D) (zsl s.nl 2) none), (1, .fn (.func 95) [] [.ptr (I n)]), (7, I ((s.l.length : Nat) : Int)), (8, I ((i2 : Nat) : Int))], [], 0, 0⟩ = some (lr_idxHas_2 s n (idxHas_2 n rest2 i2)) := by
  intro rest2
  induction rest2 with
  | nil =>
    intro i2 hd2 hi2 hL2
    unfold idxHas_2
    obtain rfl : i2 = s.l.length := nil_eq hd2 hi2
    exact zI [.dec false] (And.intro (lt_no hd2) trivial) (by kernel_rfl)
  | cons x2 rest2 ih =>
    intro i2 hd2 hi2 hL2
    have hlt2 := zk hd2
    unfold idxHas_2
    cases h2 : (ranges_Has_1 x2 n) with
    | true =>
      exact zI [.dec true, .el (.agg [I x2.lo, I x2.hi]), .pure (B (ranges_Has_1 x2 n)), .dec true] (And.intro h2 (And.intro (T_ranges_Has_1 x2 n) (And.intro (el_at (s := s) (f := S_Span.D) (k := 2) hd2) (And.intro (lt_at hd2) trivial)))) (by kernel_rfl)
    | false =>
      exact po_turn [.dec true, .el (.agg [I x2.lo, I x2.hi]), .pure (B (ranges_Has_1 x2 n)), .dec false, .rw 18 (I ((i2 + 1 : Nat) : Int))] (And.intro (inc_rw (i := i2) (by have := zk hd2; omega)) (And.intro h2 (And.intro (T_ranges_Has_1 x2 n) (And.intro (el_at (s := s) (f := S_Span.D) (k := 2) hd2) (And.intro (lt_at hd2) trivial))))) (ih (i2 + 1) (zp hd2) (zk hd2) (by omega)) (by kernel_rfl)

def idxHas (s : GS S_Span) (n : Int) : Int :=
  match idxHas_2 n s.l 0 with
  | .x0 =>
    (-1)
  | .x1 i2 x2 =>
    ((i2 : Nat) : Int)

def sd19 (s : GS S_Span) (n : Int) : St := ⟨19, [(9, B false), (0, .sl s.nl (s.l.map S_Span.D) (zsl s.nl 2) none), (1, .fn (.func 95) [] [.ptr (I n)]), (7, I ((s.l.length : Nat) : Int)), (8, I ((s.l.length : Nat) : Int))], [], 0, 0⟩

def sd20 (s : GS S_Span) (n : Int) (i2 : Nat) (x2 : S_Span) : St := ⟨19, [(4, I ((i2 : Nat) : Int)), (17, I ((i2 : Nat) : Int)), (16, B true), (15, .agg [I x2.lo, I x2.hi]), (14, .ptr (.agg [I x2.lo, I x2.hi])), (13, I ((i2 : Nat) : Int)), (12, .sl s.nl (s.l.map S_Span.D) (zsl s.nl 2) none), (11, .fn (.func 95) [] [.ptr (I n)]), (5, I ((i2 : Nat) : Int)), (10, I ((i2 : Nat) : Int)), (9, B true), (0, .sl s.nl (s.l.map S_Span.D) (zsl s.nl 2) none), (1, .fn (.func 95) [] [.ptr (I n)]), (7, I ((s.l.length : Nat) : Int)), (8, I ((i2 : Nat) : Int))], [], 0, 0⟩

theorem T_idxHas (s : GS S_Span) (n : Int) (hL_s : s.l.length ≤ 9223372036854775807) : (lim cfg).pure 107 [GS.D S_Span.D 2 s, .fn (.func 95) [] [.ptr (I n)]] = some (I (idxHas s n)) := by
  unfold idxHas
  cases h3 : idxHas_2 n s.l 0 with
  | x0 =>
    try dsimp only
    exact ze [.rw 7 (I ((s.l.length : Nat) : Int)), .loop (.exit 0) (sd19 s n)] (And.intro (po_lr (q := lr_idxHas_2 s n) (lp_idxHas_2 s n s.l 0 (List.drop_zero) (Nat.zero_le _) (by omega)) h3) (And.intro (zb S_Span.D s) trivial)) (by kernel_rfl)
  | x1 i2 x2 =>
    try dsimp only
    exact ze [.rw 7 (I ((s.l.length : Nat) : Int)), .loop .ret (sd20 s n i2 x2)] (And.intro (po_lr (q := lr_idxHas_2 s n) (lp_idxHas_2 s n s.l 0 (List.drop_zero) (Nat.zero_le _) (by omega)) h3) (And.intro (zb S_Span.D s) trivial)) (by kernel_rfl)

def conHas (s : GS S_Span) (n : Int) : Bool :=
  bif decide ((idxHas s n) ≥ 0) then
    true
  else
    false

theorem T_conHas (s : GS S_Span) (n : Int) (hL_s : s.l.length ≤ 9223372036854775807) : (lim cfg).pure 94 [GS.D S_Span.D 2 s, .fn (.func 95) [] [.ptr (I n)]] = some (B (conHas s n)) := by
  unfold conHas
  cases h1 : decide ((idxHas s n) ≥ 0) with
  | true =>
    have g1 := of_decide_eq_true h1
    exact ze [.pure (I (idxHas s n)), .dec true] (And.intro h1 (And.intro (T_idxHas s n (by omega)) trivial)) (by kernel_rfl)
  | false =>
    have g1 := of_decide_eq_false h1
    exact ze [.pure (I (idxHas s n)), .dec false] (And.intro h1 (And.intro (T_idxHas s n (by omega)) trivial)) (by kernel_rfl)

def ranges_Has (r : GS S_Span) (n : Int) : Bool × Int :=
  bif ((zg r) != 0) then
    (false, (zg r))
  else
    bif (conHas r n) then
      (true, 0)
    else
      (false, 0)

theorem T_ranges_Has (r : GS S_Span) (n : Int) (hL_r : r.l.length ≤ 9223372036854775807) : (lim cfg).pure 39 [GS.D S_Span.D 2 r, I n] = some (.tup [B ((ranges_Has r n).1), I ((ranges_Has r n).2)]) := by
  unfold ranges_Has
  cases h1 : ((zg r) != 0) with
  | true =>
    have g1 := bne_true h1
    exact ze [.pure (I (zg r)), .dec true] (And.intro h1 (And.intro (zw r (by omega)) trivial)) (by kernel_rfl)
  | false =>
    have g1 := bne_false h1
    cases h2 : (conHas r n) with
    | true =>
      exact ze [.pure (I (zg r)), .dec false, .pure (B (conHas r n)), .dec true] (And.intro h2 (And.intro (T_conHas r n (by omega)) (And.intro h1 (And.intro (zw r (by omega)) trivial)))) (by kernel_rfl)
    | false =>
      exact ze [.pure (I (zg r)), .dec false, .pure (B (conHas r n)), .dec false] (And.intro h2 (And.intro (T_conHas r n (by omega)) (And.intro h1 (And.intro (zw r (by omega)) trivial)))) (by kernel_rfl)
end Go.VS

namespace Go.VS
open Go Go.Proofs
set_option maxHeartbeats 0
set_option linter.unusedSimpArgs false
set_option linter.unusedVariables false
theorem srtL (l : List S_Span) : (srtG gcmp l).length = l.length := srtG_len gcmp_lo l
theorem T_sort (o nxt : Nat) (cap : Option Nat) (l : List S_Span) (hl : l.length ≤ 1099511627776) : (lim cfg).inl 103 [.lsl o 0 l.length 2 cap, .fn (.func 104) [] []] [(o, ⟨l.map S_Span.D, 2, false⟩)] nxt = some (.tup [], [(o, ⟨(srtG gcmp l).map S_Span.D, 2, false⟩)], nxt) :=
  inl_of (sortN_at (f := S_Span.D) (g := 104) (cf := gcmp) (to := fun x => (x.lo, x.hi)) (of := fun p => ⟨p.1, p.2⟩) (fun _ => rfl) (fun _ => rfl) o nxt cap l hl)
theorem T_sort_nil (nxt : Nat) : (lim cfg).inl 103 [.sl true [] 0 none, .fn (.func 104) [] []] [] nxt = some (.tup [], [], nxt) := inl_of (sortN_nil (g := 104) (cf := gcmp) nxt)

theorem z7 : EncOK 2 S_Span.D := ⟨fun _ _ _ => rfl, fun _ _ => rfl, fun _ _ _ => rfl, fun _ => ⟨rfl, rfl⟩⟩

def zv (lo : Int) (hi : Int) : (GS S_Span) :=
  bif decide (lo > hi) then
    GS.nil
  else
    GS.some [(⟨lo, hi⟩ : S_Span)]

theorem T_ranges_some (lo : Int) (hi : Int) : (lim cfg).pure 77 [I lo, I hi] = some (GS.D S_Span.D 2 (zv lo hi)) := by
  unfold zv
  cases h1 : decide (lo > hi) with
  | true =>
    have g1 := of_decide_eq_true h1
    exact ze [.dec true] (And.intro h1 trivial) (by kernel_rfl)
  | false =>
    have g1 := of_decide_eq_false h1
    exact ze [.dec false] (And.intro h1 trivial) (by kernel_rfl)

def zf (x : S_Span) : (GS S_Span) :=
  (zv x.lo x.hi)

theorem T_ranges_Of_1 (x : S_Span) : (lim cfg).pure 90 [S_Span.D x] = some (GS.D S_Span.D 2 (zf x)) := by
  unfold zf
  exact ze [.pure (.sl ((zv x.lo x.hi).nl) (((zv x.lo x.hi).l).map S_Span.D) (zsl ((zv x.lo x.hi).nl) 2) none)] (And.intro (T_ranges_some x.lo x.hi) trivial) (by kernel_rfl)

theorem some1 (lo hi : Int) : (zv lo hi).l.length ≤ 1 := by
  unfold zv
  cases decide (lo > hi) <;> simp [GS.nil, GS.some]
theorem of1_len (x : S_Span) : (zf x).l.length ≤ 1 := some1 _ _

noncomputable def lp70_3 : Code := subC [1, 1, 0, 1, 0, 0] (bodyC Tryz.f70)

def sd21 (l : GS S_Span) (i3 : Nat) (x3 : S_Span) (zM : List S_Span) : St := ⟨21, [(10, I ((i3 + 1 : Nat) : Int)), (19, I ((i3 + 1 : Nat) : Int)), (5, .lsl 0 0 zM.length 2 none), (18, .lsl 0 0 zM.length 2 none), (17, .sl ((zf x3).nl) (((zf x3).l).map S_Span.D) (zsl ((zf x3).nl) 2) none), (16, .agg [I x3.lo, I x3.hi]), (15, .fn (.func 90) [] []), (14, .lsl 0 0 zM.length 2 none), (7, .lref 1 0 2 0), (13, .agg [I x3.lo, I x3.hi]), (12, .ptr (.agg [I x3.lo, I x3.hi])), (11, B true), (1, .fn (.func 90) [] []), (5, .lsl 0 0 zM.length 2 none), (8, .sl l.nl (l.l.map S_Span.D) (zsl l.nl 2) none), (9, I ((l.l.length : Nat) : Int)), (10, I ((i3 : Nat) : Int))], [(0, ⟨zM.map S_Span.D, 2, false⟩), (1, ⟨[.agg [I x3.lo, I x3.hi]], 2, false⟩)], 2, 0⟩

def sd22 (l : GS S_Span) (i3 : Nat) (x3 : S_Span) (zM : List S_Span) : St := ⟨21, [(10, I ((i3 + 1 : Nat) : Int)), (19, I ((i3 + 1 : Nat) : Int)), (5, .lsl 2 0 ((zM ++ ((zf x3).l)).length) 2 none), (18, .lsl 2 0 ((zM ++ ((zf x3).l)).length) 2 none), (17, .sl ((zf x3).nl) (((zf x3).l).map S_Span.D) (zsl ((zf x3).nl) 2) none), (16, .agg [I x3.lo, I x3.hi]), (15, .fn (.func 90) [] []), (14, .lsl 0 0 zM.length 2 none), (7, .lref 1 0 2 0), (13, .agg [I x3.lo, I x3.hi]), (12, .ptr (.agg [I x3.lo, I x3.hi])), (11, B true), (1, .fn (.func 90) [] []), (5, .lsl 0 0 zM.length 2 none), (8, .sl l.nl (l.l.map S_Span.D) (zsl l.nl 2) none), (9, I ((l.l.length : Nat) : Int)), (10, I ((i3 : Nat) : Int))], [(1, ⟨[.agg [I x3.lo, I x3.hi]], 2, false⟩), (2, ⟨(zM ++ ((zf x3).l)).map S_Span.D, 2, false⟩)], 3, 0⟩

def sd23 (l : GS S_Span) (i3 : Nat) (x3 : S_Span) : St := ⟨21, [(10, I ((i3 + 1 : Nat) : Int)), (19, I ((i3 + 1 : Nat) : Int)), (5, .lsl 1 0 (((zf x3).l).length) 2 none), (18, .lsl 1 0 (((zf x3).l).length) 2 none), (17, .sl ((zf x3).nl) (((zf x3).l).map S_Span.D) (zsl ((zf x3).nl) 2) none), (16, .agg [I x3.lo, I x3.hi]), (15, .fn (.func 90) [] []), (14, .sl true [] 0 none), (7, .lref 0 0 2 0), (13, .agg [I x3.lo, I x3.hi]), (12, .ptr (.agg [I x3.lo, I x3.hi])), (11, B true), (1, .fn (.func 90) [] []), (5, .sl true [] 0 none), (8, .sl l.nl (l.l.map S_Span.D) (zsl l.nl 2) none), (9, I ((l.l.length : Nat) : Int)), (10, I ((i3 : Nat) : Int))], [(0, ⟨[.agg [I x3.lo, I x3.hi]], 2, false⟩), (1, ⟨((zf x3).l).map S_Span.D, 2, false⟩)], 2, 0⟩

inductive LR_ranges_each_3 where
  | x0 (zM : List S_Span)
  | x1
instance : Inhabited LR_ranges_each_3 := ⟨.x0 default⟩
def ranges_each_3a : List S_Span → (List S_Span) → LR_ranges_each_3
  | [], zM => .x0 zM
  | x3 :: zS, zM =>
    bif ((zf x3).l).isEmpty then
      ranges_each_3a zS zM
    else
      ranges_each_3a zS (zM ++ ((zf x3).l))
def ranges_each_3 : List S_Span → LR_ranges_each_3
  | [] => .x1
  | x3 :: zS =>
    bif ((zf x3).l).isEmpty then
      ranges_each_3 zS
    else
      ranges_each_3a zS ((zf x3).l)
def lr_ranges_each_3 (l : GS S_Span) : LR_ranges_each_3 → Exit × St
  | .x0 zM => ((.exit 0), ⟨21, [(11, B false), (1, .fn (.func 90) [] []), (5, .lsl 0 0 zM.length 2 none), (8, .sl l.nl (l.l.map S_Span.D) (zsl l.nl 2) none), (9, I ((l.l.length : Nat) : Int)), (10, I ((l.l.length : Nat) : Int))], [(0, ⟨zM.map S_Span.D, 2, false⟩)], 1, 0⟩)
  | .x1 => ((.exit 0), ⟨21, [(11, B false), (1, .fn (.func 90) [] []), (5, .sl true [] 0 none), (8, .sl l.nl (l.l.map S_Span.D) (zsl l.nl 2) none), (9, I ((l.l.length : Nat) : Int)), (10, I ((l.l.length : Nat) : Int))], [], 0, 0⟩)
def iv_ranges_each_3 (l : GS S_Span) : LR_ranges_each_3 → Prop
  | .x0 zM => (zM.length ≤ l.l.length)
  | .x1 => True
theorem lp_ranges_each_3a (l : GS S_Span) : ∀ (zS : List S_Span) (i3 : Nat) (zM : List S_Span) (hd3 : l.l.drop i3 = zS) (hi3 : i3 ≤ l.l.length) (hg3_va3_0 : zM.length ≤ i3) (hL3 : l.l.length ≤ 1099511627776), (lim cfg).loop 70 lp70_3 ⟨21, [(1, .fn (.func 90) [] []), (5, .lsl 0 0 zM.length 2 none), (8, .sl l.nl (l.l.map S_Span.D) (zsl l.nl 2) none), (9, I ((l.l.length : Nat) : Int)), (10, I ((i3 : Nat) : Int))], [(0, ⟨zM.map S_Span.D, 2, false⟩)], 1, 0⟩ = some (lr_ranges_each_3 l (ranges_each_3a zS zM)) := by
  intro zS
  induction zS with
  | nil =>
    intro i3 zM hd3 hi3 hg3_va3_0 hL3
    unfold ranges_each_3a
    obtain rfl : i3 = l.l.length := nil_eq hd3 hi3
    exact zI [.dec false] (And.intro (lt_no hd3) trivial) (by kernel_rfl)
  | cons x3 zS ih =>
    intro i3 zM hd3 hi3 hg3_va3_0 hL3
    have hlt3 := zk hd3
    have hlx := of1_len x3
    unfold ranges_each_3a
    cases h3 : ((zf x3).l).isEmpty with
    | true =>
      exact po_turn' (ks := [1, 5, 8, 9, 10]) (st' := (sd21 l i3 x3 zM)) [.dec true, .el (.agg [I x3.lo, I x3.hi]), .pure (.sl ((zf x3).nl) (((zf x3).l).map S_Span.D) (zsl ((zf x3).nl) 2) none), .op (some 18) ⟨.lsl 0 0 zM.length 2 none, [], [], 2⟩, .rw 19 (I ((i3 + 1 : Nat) : Int))] (And.intro (inc_rw (i := i3) (by have := zk hd3; omega)) (And.intro (app_none (te := ty25) (gO := zj [(0, ⟨zM.map S_Span.D, 2, false⟩), (1, ⟨[.agg [I x3.lo, I x3.hi]], 2, false⟩)]) (nxt := 2) (f := S_Span.D) (sz := 2) (d := .lsl 0 0 zM.length 2 none) (zf x3) h3 rfl) (And.intro (T_ranges_Of_1 x3) (And.intro (el_at (s := l) (f := S_Span.D) (k := 2) hd3) (And.intro (lt_at hd3) trivial))))) (by kernel_rfl) (by (simp only [sd21, go_sem, List.length_set, Nat.reduceAdd, Nat.reduceEqDiff, Nat.reduceLT, Nat.reduceLeDiff, bI2, zi.idsL, zi.renL, zi.snapAll, z7.idsL, z7.renL, z7.snapAll]) <;> rfl) (ih (i3 + 1) zM (zp hd3) (zk hd3) (by omega) (by omega)) (by kernel_rfl)
    | false =>
      exact po_turn' (ks := [1, 5, 8, 9, 10]) (st' := (sd22 l i3 x3 zM)) [.dec true, .el (.agg [I x3.lo, I x3.hi]), .pure (.sl ((zf x3).nl) (((zf x3).l).map S_Span.D) (zsl ((zf x3).nl) 2) none), .op (some 18) ⟨.lsl 2 0 ((zM ++ ((zf x3).l)).length) 2 none, [(0, none), (2, some ⟨(zM ++ ((zf x3).l)).map S_Span.D, 2, false⟩)], [0], 3⟩, .rw 19 (I ((i3 + 1 : Nat) : Int))] (And.intro (inc_rw (i := i3) (by have := zk hd3; omega)) (And.intro (app_moreD (te := ty25) (gO := zj [(0, ⟨zM.map S_Span.D, 2, false⟩), (1, ⟨[.agg [I x3.lo, I x3.hi]], 2, false⟩)]) (nxt := 2) (o := 0) (v := zM) z7 (zf x3) h3 (by kernel_rfl) rfl (by kernel_rfl) (by decide) ⟨by simp only [ty25, big] <;> (first | assumption | omega | (exact two_bd (by omega) (by omega)) | (simp only [za] at * <;> omega) | (simp only [srtL, GS.some_l, List.length_set, List.length_append, List.length_cons, List.length_nil] at * <;> first | with_reducible assumption | omega) | (simp only [srtL, GS.some_l, List.length_set, List.length_append, List.length_cons, List.length_nil, za] at * <;> first | with_reducible assumption | omega) | (simp at * <;> omega)), by simp only [big] <;> (first | assumption | omega | (exact two_bd (by omega) (by omega)) | (simp only [za] at * <;> omega) | (simp only [srtL, GS.some_l, List.length_set, List.length_append, List.length_cons, List.length_nil] at * <;> first | with_reducible assumption | omega) | (simp only [srtL, GS.some_l, List.length_set, List.length_append, List.length_cons, List.length_nil, za] at * <;> first | with_reducible assumption | omega) | (simp at * <;> omega))⟩) (And.intro (T_ranges_Of_1 x3) (And.intro (el_at (s := l) (f := S_Span.D) (k := 2) hd3) (And.intro (lt_at hd3) trivial))))) (by kernel_rfl) (by (simp only [sd22, go_sem, List.length_set, Nat.reduceAdd, Nat.reduceEqDiff, Nat.reduceLT, Nat.reduceLeDiff, bI2, zi.idsL, zi.renL, zi.snapAll, z7.idsL, z7.renL, z7.snapAll]) <;> rfl) (ih (i3 + 1) (zM ++ ((zf x3).l)) (zp hd3) (zk hd3) (by simp only [List.length_append, List.length_cons, List.length_nil] at * <;> omega) (by omega)) (by kernel_rfl)
theorem ivt_ranges_each_3a (l : GS S_Span) : ∀ (zS : List S_Span) (i3 : Nat) (zM : List S_Span) (hd3 : l.l.drop i3 = zS) (hi3 : i3 ≤ l.l.length) (hg3_va3_0 : zM.length ≤ i3) (hL3 : l.l.length ≤ 1099511627776), iv_ranges_each_3 l (ranges_each_3a zS zM) := by
  intro zS
  induction zS with
  | nil =>
    intro i3 zM hd3 hi3 hg3_va3_0 hL3
    unfold ranges_each_3a
    obtain rfl : i3 = l.l.length := nil_eq hd3 hi3
    exact hg3_va3_0
  | cons x3 zS ih =>
    intro i3 zM hd3 hi3 hg3_va3_0 hL3
    have hlt3 := zk hd3
    have hlx := of1_len x3
    unfold ranges_each_3a
    cases h3 : ((zf x3).l).isEmpty with
    | true =>
      exact ih (i3 + 1) zM (zp hd3) (zk hd3) (by omega) (by omega)
    | false =>
      exact ih (i3 + 1) (zM ++ ((zf x3).l)) (zp hd3) (zk hd3) (by simp only [List.length_append, List.length_cons, List.length_nil] at * <;> omega) (by omega)
theorem lp_ranges_each_3 (l : GS S_Span) : ∀ (zS : List S_Span) (i3 : Nat) (hd3 : l.l.drop i3 = zS) (hi3 : i3 ≤ l.l.length) (hL3 : l.l.length ≤ 1099511627776), (lim cfg).loop 70 lp70_3 ⟨21, [(1, .fn (.func 90) [] []), (5, .sl true [] 0 none), (8, .sl l.nl (l.l.map S_Span.D) (zsl l.nl 2) none), (9, I ((l.l.length : Nat) : Int)), (10, I ((i3 : Nat) : Int))], [], 0, 0⟩ = some (lr_ranges_each_3 l (ranges_each_3 zS)) := by
  intro zS
  induction zS with
  | nil =>
    intro i3 hd3 hi3 hL3
    unfold ranges_each_3
    obtain rfl : i3 = l.l.length := nil_eq hd3 hi3
    exact zI [.dec false] (And.intro (lt_no hd3) trivial) (by kernel_rfl)
  | cons x3 zS ih =>
    intro i3 hd3 hi3 hL3
    have hlt3 := zk hd3
    have hlx := of1_len x3
    unfold ranges_each_3
    cases h4 : ((zf x3).l).isEmpty with
    | true =>
      exact po_turn [.dec true, .el (.agg [I x3.lo, I x3.hi]), .pure (.sl ((zf x3).nl) (((zf x3).l).map S_Span.D) (zsl ((zf x3).nl) 2) none), .op (some 18) ⟨.sl true [] 0 none, [], [], 1⟩, .rw 19 (I ((i3 + 1 : Nat) : Int))] (And.intro (inc_rw (i := i3) (by have := zk hd3; omega)) (And.intro (app_none (te := ty25) (gO := zj [(0, ⟨[.agg [I x3.lo, I x3.hi]], 2, false⟩)]) (nxt := 1) (f := S_Span.D) (sz := 2) (d := .sl true [] 0 none) (zf x3) h4 rfl) (And.intro (T_ranges_Of_1 x3) (And.intro (el_at (s := l) (f := S_Span.D) (k := 2) hd3) (And.intro (lt_at hd3) trivial))))) (ih (i3 + 1) (zp hd3) (zk hd3) (by omega)) (by kernel_rfl)
    | false =>
      exact po_turn' (ks := [1, 5, 8, 9, 10]) (st' := (sd23 l i3 x3)) [.dec true, .el (.agg [I x3.lo, I x3.hi]), .pure (.sl ((zf x3).nl) (((zf x3).l).map S_Span.D) (zsl ((zf x3).nl) 2) none), .op (some 18) ⟨.lsl 1 0 (((zf x3).l).length) 2 none, [(1, some ⟨((zf x3).l).map S_Span.D, 2, false⟩)], [], 2⟩, .rw 19 (I ((i3 + 1 : Nat) : Int))] (And.intro (inc_rw (i := i3) (by have := zk hd3; omega)) (And.intro (app_newD (te := ty25) (gO := zj [(0, ⟨[.agg [I x3.lo, I x3.hi]], 2, false⟩)]) (nxt := 1) (els0 := []) (sz0 := 0) (cap0 := none) z7 (zf x3) h4 rfl (by kernel_rfl) (by decide) ⟨by simp only [ty25, big] <;> (first | assumption | omega | (exact two_bd (by omega) (by omega)) | (simp only [za] at * <;> omega) | (simp only [srtL, GS.some_l, List.length_set, List.length_append, List.length_cons, List.length_nil] at * <;> first | with_reducible assumption | omega) | (simp only [srtL, GS.some_l, List.length_set, List.length_append, List.length_cons, List.length_nil, za] at * <;> first | with_reducible assumption | omega) | (simp at * <;> omega)), by simp only [big] <;> (first | assumption | omega | (exact two_bd (by omega) (by omega)) | (simp only [za] at * <;> omega) | (simp only [srtL, GS.some_l, List.length_set, List.length_append, List.length_cons, List.length_nil] at * <;> first | with_reducible assumption | omega) | (simp only [srtL, GS.some_l, List.length_set, List.length_append, List.length_cons, List.length_nil, za] at * <;> first | with_reducible assumption | omega) | (simp at * <;> omega))⟩) (And.intro (T_ranges_Of_1 x3) (And.intro (el_at (s := l) (f := S_Span.D) (k := 2) hd3) (And.intro (lt_at hd3) trivial))))) (by kernel_rfl) (by (simp only [sd23, go_sem, List.length_set, Nat.reduceAdd, Nat.reduceEqDiff, Nat.reduceLT, Nat.reduceLeDiff, bI2, zi.idsL, zi.renL, zi.snapAll, z7.idsL, z7.renL, z7.snapAll]) <;> rfl) (lp_ranges_each_3a l _ (i3 + 1) ((zf x3).l) (zp hd3) (zk hd3) (by omega) (by omega)) (by kernel_rfl)
theorem ivt_ranges_each_3 (l : GS S_Span) : ∀ (zS : List S_Span) (i3 : Nat) (hd3 : l.l.drop i3 = zS) (hi3 : i3 ≤ l.l.length) (hL3 : l.l.length ≤ 1099511627776), iv_ranges_each_3 l (ranges_each_3 zS) := by
  intro zS
  induction zS with
  | nil =>
    intro i3 hd3 hi3 hL3
    unfold ranges_each_3
    obtain rfl : i3 = l.l.length := nil_eq hd3 hi3
    exact trivial
  | cons x3 zS ih =>
    intro i3 hd3 hi3 hL3
    have hlt3 := zk hd3
    have hlx := of1_len x3
    unfold ranges_each_3
    cases h4 : ((zf x3).l).isEmpty with
    | true =>
      exact ih (i3 + 1) (zp hd3) (zk hd3) (by omega)
    | false =>
      exact ivt_ranges_each_3a l _ (i3 + 1) ((zf x3).l) (zp hd3) (zk hd3) (by omega) (by omega)

noncomputable def lp69_4 : Code := subC [1, 1, 1, 0, 1, 0, 0] (bodyC Tryz.f69)

def sd25 (zM : List S_Span) (i4 : Nat) (zU : List S_Span) (x4 : S_Span) (zQ : List S_Span) : St := ⟨65, [(12, I ((i4 + 1 : Nat) : Int)), (60, I ((i4 + 1 : Nat) : Int)), (55, .lref 1 ((w64 (((zQ.length : Nat) : Int) - 1)).toNat) 2 1), (54, .lref 1 ((w64 (((zQ.length : Nat) : Int) - 1)).toNat) 2 0), (53, I (zC ((zQ.getD ((w64 (((zQ.length : Nat) : Int) - 1)).toNat) default).hi) x4.hi)), (52, I x4.hi), (51, .lref 2 0 2 1), (50, I ((zQ.getD ((w64 (((zQ.length : Nat) : Int) - 1)).toNat) default).hi)), (49, .lref 1 ((w64 (((zQ.length : Nat) : Int) - 1)).toNat) 2 1), (48, .lref 1 ((w64 (((zQ.length : Nat) : Int) - 1)).toNat) 2 0), (47, I (w64 (((zQ.length : Nat) : Int) - 1))), (46, I ((zQ.length : Nat) : Int)), (45, .lsl 1 0 zQ.length 2 none), (44, I (w64 (((zQ.length : Nat) : Int) - 1))), (43, I ((zQ.length : Nat) : Int)), (42, .lsl 1 0 zQ.length 2 none), (41, B true), (40, B true), (39, I (w64 (((zQ.getD ((w64 (((zQ.length : Nat) : Int) - 1)).toNat) default).hi) + 1))), (38, I ((zQ.getD ((w64 (((zQ.length : Nat) : Int) - 1)).toNat) default).hi)), (37, .lref 1 ((w64 (((zQ.length : Nat) : Int) - 1)).toNat) 2 1), (36, .lref 1 ((w64 (((zQ.length : Nat) : Int) - 1)).toNat) 2 0), (35, I (w64 (((zQ.length : Nat) : Int) - 1))), (34, I ((zQ.length : Nat) : Int)), (33, .lsl 1 0 zQ.length 2 none), (32, I x4.lo), (31, .lref 2 0 2 0), (30, B true), (29, B true), (28, I ((zQ.length : Nat) : Int)), (7, I ((zQ.length : Nat) : Int)), (27, I ((zQ.length : Nat) : Int)), (26, .lsl 1 0 zQ.length 2 none), (25, B false), (24, B false), (23, B true), (22, I x4.hi), (21, .lref 2 0 2 1), (20, B false), (19, B false), (18, B true), (17, I x4.lo), (16, .lref 2 0 2 0), (6, .lref 2 0 2 0), (15, .agg [I x4.lo, I x4.hi]), (14, .lref 0 i4 2 0), (13, B true), (4, .lsl 1 0 zQ.length 2 none), (10, .lsl 0 0 zM.length 2 none), (11, I ((zM.length : Nat) : Int)), (12, I ((i4 : Nat) : Int))], [(0, ⟨zU.map S_Span.D, 2, false⟩), (1, ⟨(zQ.set ((w64 (((zQ.length : Nat) : Int) - 1)).toNat) (⟨(zQ.getD ((w64 (((zQ.length : Nat) : Int) - 1)).toNat) default).lo, zC ((zQ.getD ((w64 (((zQ.length : Nat) : Int) - 1)).toNat) default).hi) x4.hi⟩ : S_Span)).map S_Span.D, 2, false⟩), (2, ⟨[.agg [I x4.lo, I x4.hi]], 2, false⟩)], 3, 1⟩

def sd26 (zM : List S_Span) (i4 : Nat) (zU : List S_Span) (x4 : S_Span) (zQ : List S_Span) : St := ⟨65, [(12, I ((i4 + 1 : Nat) : Int)), (60, I ((i4 + 1 : Nat) : Int)), (4, .lsl 4 0 ((zQ ++ [x4]).length) 2 none), (59, .lsl 4 0 ((zQ ++ [x4]).length) 2 none), (58, .lsl 3 0 1 2 (some 1)), (57, .agg [I x4.lo, I x4.hi]), (56, .lsl 1 0 zQ.length 2 none), (41, B false), (40, B false), (39, I (w64 (((zQ.getD ((w64 (((zQ.length : Nat) : Int) - 1)).toNat) default).hi) + 1))), (38, I ((zQ.getD ((w64 (((zQ.length : Nat) : Int) - 1)).toNat) default).hi)), (37, .lref 1 ((w64 (((zQ.length : Nat) : Int) - 1)).toNat) 2 1), (36, .lref 1 ((w64 (((zQ.length : Nat) : Int) - 1)).toNat) 2 0), (35, I (w64 (((zQ.length : Nat) : Int) - 1))), (34, I ((zQ.length : Nat) : Int)), (33, .lsl 1 0 zQ.length 2 none), (32, I x4.lo), (31, .lref 2 0 2 0), (30, B true), (29, B true), (28, I ((zQ.length : Nat) : Int)), (7, I ((zQ.length : Nat) : Int)), (27, I ((zQ.length : Nat) : Int)), (26, .lsl 1 0 zQ.length 2 none), (25, B false), (24, B false), (23, B true), (22, I x4.hi), (21, .lref 2 0 2 1), (20, B false), (19, B false), (18, B true), (17, I x4.lo), (16, .lref 2 0 2 0), (6, .lref 2 0 2 0), (15, .agg [I x4.lo, I x4.hi]), (14, .lref 0 i4 2 0), (13, B true), (4, .lsl 1 0 zQ.length 2 none), (10, .lsl 0 0 zM.length 2 none), (11, I ((zM.length : Nat) : Int)), (12, I ((i4 : Nat) : Int))], [(0, ⟨zU.map S_Span.D, 2, false⟩), (2, ⟨[.agg [I x4.lo, I x4.hi]], 2, false⟩), (3, ⟨[.agg [I x4.lo, I x4.hi]], 2, false⟩), (4, ⟨(zQ ++ [x4]).map S_Span.D, 2, false⟩)], 5, 1⟩

def sd27 (zM : List S_Span) (i4 : Nat) (zU : List S_Span) (x4 : S_Span) (zQ : List S_Span) : St := ⟨65, [(12, I ((i4 + 1 : Nat) : Int)), (60, I ((i4 + 1 : Nat) : Int)), (4, .lsl 4 0 ((zQ ++ [x4]).length) 2 none), (59, .lsl 4 0 ((zQ ++ [x4]).length) 2 none), (58, .lsl 3 0 1 2 (some 1)), (57, .agg [I x4.lo, I x4.hi]), (56, .lsl 1 0 zQ.length 2 none), (41, B false), (40, .tup []), (39, .tup []), (38, .tup []), (37, .tup []), (36, .tup []), (35, .tup []), (34, .tup []), (33, .tup []), (32, .tup []), (31, .tup []), (30, B false), (29, B false), (28, I ((zQ.length : Nat) : Int)), (7, I ((zQ.length : Nat) : Int)), (27, I ((zQ.length : Nat) : Int)), (26, .lsl 1 0 zQ.length 2 none), (25, B false), (24, B false), (23, B true), (22, I x4.hi), (21, .lref 2 0 2 1), (20, B false), (19, B false), (18, B true), (17, I x4.lo), (16, .lref 2 0 2 0), (6, .lref 2 0 2 0), (15, .agg [I x4.lo, I x4.hi]), (14, .lref 0 i4 2 0), (13, B true), (4, .lsl 1 0 zQ.length 2 none), (10, .lsl 0 0 zM.length 2 none), (11, I ((zM.length : Nat) : Int)), (12, I ((i4 : Nat) : Int))], [(0, ⟨zU.map S_Span.D, 2, false⟩), (2, ⟨[.agg [I x4.lo, I x4.hi]], 2, false⟩), (3, ⟨[.agg [I x4.lo, I x4.hi]], 2, false⟩), (4, ⟨(zQ ++ [x4]).map S_Span.D, 2, false⟩)], 5, 1⟩

def sd28 (zM : List S_Span) (i4 : Nat) (zU : List S_Span) (x4 : S_Span) : St := ⟨65, [(12, I ((i4 + 1 : Nat) : Int)), (60, I ((i4 + 1 : Nat) : Int)), (4, .lsl 3 0 1 2 none), (59, .lsl 3 0 1 2 none), (58, .lsl 2 0 1 2 (some 1)), (57, .agg [I x4.lo, I x4.hi]), (56, .sl true [] 0 none), (41, B false), (40, .tup []), (39, .tup []), (38, .tup []), (37, .tup []), (36, .tup []), (35, .tup []), (34, .tup []), (33, .tup []), (32, .tup []), (31, .tup []), (30, B false), (29, B false), (28, I 0), (7, I 0), (27, I 0), (26, .sl true [] 0 none), (25, B false), (24, B false), (23, B true), (22, I x4.hi), (21, .lref 1 0 2 1), (20, B false), (19, B false), (18, B true), (17, I x4.lo), (16, .lref 1 0 2 0), (6, .lref 1 0 2 0), (15, .agg [I x4.lo, I x4.hi]), (14, .lref 0 i4 2 0), (13, B true), (4, .sl true [] 0 none), (10, .lsl 0 0 zM.length 2 none), (11, I ((zM.length : Nat) : Int)), (12, I ((i4 : Nat) : Int))], [(0, ⟨zU.map S_Span.D, 2, false⟩), (1, ⟨[.agg [I x4.lo, I x4.hi]], 2, false⟩), (2, ⟨[.agg [I x4.lo, I x4.hi]], 2, false⟩), (3, ⟨[.agg [I x4.lo, I x4.hi]], 2, false⟩)], 4, 1⟩

inductive LR_ranges_gathered_4 where
  | x0 (zQ : List S_Span)
  | x1 (i4 : Nat) (x4 : S_Span) (zQ : List S_Span)
  | x2 (i4 : Nat) (x4 : S_Span) (zQ : List S_Span)
  | x3
  | x4 (i4 : Nat) (x4 : S_Span)
  | x5 (i4 : Nat) (x4 : S_Span)
instance : Inhabited LR_ranges_gathered_4 := ⟨.x0 default⟩
def zx : List S_Span → Nat → (List S_Span) → LR_ranges_gathered_4
  | [], i4, zQ => .x0 zQ
  | x4 :: zR, i4, zQ =>
    bif (zm x4.lo) then
      bif (zm x4.hi) then
        bif decide (((zQ.length : Nat) : Int) > 0) then
          bif decide (x4.lo ≤ (w64 (((zQ.getD ((w64 (((zQ.length : Nat) : Int) - 1)).toNat) default).hi) + 1))) then
            zx zR (i4 + 1) (zQ.set ((w64 (((zQ.length : Nat) : Int) - 1)).toNat) (⟨(zQ.getD ((w64 (((zQ.length : Nat) : Int) - 1)).toNat) default).lo, zC ((zQ.getD ((w64 (((zQ.length : Nat) : Int) - 1)).toNat) default).hi) x4.hi⟩ : S_Span))
          else
            zx zR (i4 + 1) (zQ ++ [x4])
        else
          zx zR (i4 + 1) (zQ ++ [x4])
      else
        .x1 i4 x4 zQ
    else
      .x2 i4 x4 zQ
def ranges_gathered_4 : List S_Span → Nat → LR_ranges_gathered_4
  | [], i4 => .x3
  | x4 :: zR, i4 =>
    bif (zm x4.lo) then
      bif (zm x4.hi) then
        zx zR (i4 + 1) [x4]
      else
        .x4 i4 x4
    else
      .x5 i4 x4
def lr_ranges_gathered_4 (zM : List S_Span) (zU : List S_Span) : LR_ranges_gathered_4 → Exit × St
  | .x0 zQ => ((.exit 0), ⟨65, [(13, B false), (4, .lsl 1 0 zQ.length 2 none), (10, .lsl 0 0 zM.length 2 none), (11, I ((zM.length : Nat) : Int)), (12, I ((zU.length : Nat) : Int))], [(0, ⟨zU.map S_Span.D, 2, false⟩), (1, ⟨zQ.map S_Span.D, 2, false⟩)], 2, 1⟩)
  | .x1 i4 x4 zQ => (.ret, ⟨65, [(3, I 2), (2, .sl true [] 0 none), (25, B true), (24, B true), (23, B false), (22, I x4.hi), (21, .lref 2 0 2 1), (20, B false), (19, B false), (18, B true), (17, I x4.lo), (16, .lref 2 0 2 0), (6, .lref 2 0 2 0), (15, .agg [I x4.lo, I x4.hi]), (14, .lref 0 i4 2 0), (13, B true), (4, .lsl 1 0 zQ.length 2 none), (10, .lsl 0 0 zM.length 2 none), (11, I ((zM.length : Nat) : Int)), (12, I ((i4 : Nat) : Int))], [(0, ⟨zU.map S_Span.D, 2, false⟩), (1, ⟨zQ.map S_Span.D, 2, false⟩), (2, ⟨[.agg [I x4.lo, I x4.hi]], 2, false⟩)], 3, 1⟩)
  | .x2 i4 x4 zQ => (.ret, ⟨65, [(3, I 2), (2, .sl true [] 0 none), (25, B true), (24, .tup []), (23, .tup []), (22, .tup []), (21, .tup []), (20, B true), (19, B true), (18, B false), (17, I x4.lo), (16, .lref 2 0 2 0), (6, .lref 2 0 2 0), (15, .agg [I x4.lo, I x4.hi]), (14, .lref 0 i4 2 0), (13, B true), (4, .lsl 1 0 zQ.length 2 none), (10, .lsl 0 0 zM.length 2 none), (11, I ((zM.length : Nat) : Int)), (12, I ((i4 : Nat) : Int))], [(0, ⟨zU.map S_Span.D, 2, false⟩), (1, ⟨zQ.map S_Span.D, 2, false⟩), (2, ⟨[.agg [I x4.lo, I x4.hi]], 2, false⟩)], 3, 1⟩)
  | .x3 => ((.exit 0), ⟨65, [(13, B false), (4, .sl true [] 0 none), (10, .lsl 0 0 zM.length 2 none), (11, I ((zM.length : Nat) : Int)), (12, I ((zU.length : Nat) : Int))], [(0, ⟨zU.map S_Span.D, 2, false⟩)], 1, 1⟩)
  | .x4 i4 x4 => (.ret, ⟨65, [(3, I 2), (2, .sl true [] 0 none), (25, B true), (24, B true), (23, B false), (22, I x4.hi), (21, .lref 1 0 2 1), (20, B false), (19, B false), (18, B true), (17, I x4.lo), (16, .lref 1 0 2 0), (6, .lref 1 0 2 0), (15, .agg [I x4.lo, I x4.hi]), (14, .lref 0 i4 2 0), (13, B true), (4, .sl true [] 0 none), (10, .lsl 0 0 zM.length 2 none), (11, I ((zM.length : Nat) : Int)), (12, I ((i4 : Nat) : Int))], [(0, ⟨zU.map S_Span.D, 2, false⟩), (1, ⟨[.agg [I x4.lo, I x4.hi]], 2, false⟩)], 2, 1⟩)
  | .x5 i4 x4 => (.ret, ⟨65, [(3, I 2), (2, .sl true [] 0 none), (25, B true), (24, .tup []), (23, .tup []), (22, .tup []), (21, .tup []), (20, B true), (19, B true), (18, B false), (17, I x4.lo), (16, .lref 1 0 2 0), (6, .lref 1 0 2 0), (15, .agg [I x4.lo, I x4.hi]), (14, .lref 0 i4 2 0), (13, B true), (4, .sl true [] 0 none), (10, .lsl 0 0 zM.length 2 none), (11, I ((zM.length : Nat) : Int)), (12, I ((i4 : Nat) : Int))], [(0, ⟨zU.map S_Span.D, 2, false⟩), (1, ⟨[.agg [I x4.lo, I x4.hi]], 2, false⟩)], 2, 1⟩)
def iv_ranges_gathered_4 (zM : List S_Span) (zU : List S_Span) : LR_ranges_gathered_4 → Prop
  | .x0 zQ => (1 ≤ zQ.length) ∧ (zQ.length ≤ zU.length)
  | .x1 i4 x4 zQ => (1 ≤ zQ.length) ∧ (zQ.length ≤ i4)
  | .x2 i4 x4 zQ => (1 ≤ zQ.length) ∧ (zQ.length ≤ i4)
  | .x3 => True
  | .x4 i4 x4 => True
  | .x5 i4 x4 => True
def ranges_gathered_4a_l_o1 (i4 : Nat) (x4 : S_Span) : List Ora := [.dec true, .op (some 14) ⟨.lref 0 i4 2 0, [], [], 2⟩, .op (some 15) ⟨.agg [I x4.lo, I x4.hi], [], [0], 2⟩, .pure (B (zm x4.lo))]
def ranges_gathered_4a_l_o2 (x4 : S_Span) (zQ : List S_Span) : List Ora := [.dec true, .pure (B (zm x4.hi)), .dec true, .dec true, .op (some 36) ⟨.lref 1 ((w64 (((zQ.length : Nat) : Int) - 1)).toNat) 2 0, [], [], 3⟩, .op (some 38) ⟨I ((zQ.getD ((w64 (((zQ.length : Nat) : Int) - 1)).toNat) default).hi), [], [1], 3⟩]
theorem lp_ranges_gathered_4a (zM : List S_Span) (zU : List S_Span) : ∀ (zR : List S_Span) (i4 : Nat) (zQ : List S_Span) (hd4 : zU.drop i4 = zR) (hi4 : i4 ≤ zU.length) (hz4_va4_0 : 1 ≤ zQ.length) (hq4 : zU.length = zM.length) (hg4_va4_0 : zQ.length ≤ i4) (hL4 : zU.length ≤ 1099511627776), (lim cfg).loop 69 lp69_4 ⟨65, [(4, .lsl 1 0 zQ.length 2 none), (10, .lsl 0 0 zM.length 2 none), (11, I ((zM.length : Nat) : Int)), (12, I ((i4 : Nat) : Int))], [(0, ⟨zU.map S_Span.D, 2, false⟩), (1, ⟨zQ.map S_Span.D, 2, false⟩)], 2, 1⟩ = some (lr_ranges_gathered_4 zM zU (zx zR i4 zQ)) := by
  intro zR
  induction zR with
  | nil =>
    intro i4 zQ hd4 hi4 hz4_va4_0 hq4 hg4_va4_0 hL4
    unfold zx
    obtain rfl : i4 = zU.length := nil_eq hd4 hi4
    exact zI [.dec false] (And.intro (lt_no' hd4 hq4) trivial) (by kernel_rfl)
  | cons x4 zR ih =>
    intro i4 zQ hd4 hi4 hz4_va4_0 hq4 hg4_va4_0 hL4
    have hlt4 := zk hd4
    unfold zx
    have p1 := (idx_row (C := cfg) (nxt := 2) (t := 22) (ty := ty22) (te := ty25) (e := 25) (o := 0) (len := zM.length) (sz := 2) (cap := none) (i := ((i4 : Nat) : Int)) (by kernel_rfl) rfl (by kernel_rfl) rfl (by omega) (by omega))
    have p2 := (load_row (C := cfg) (objs := [(0, ⟨zU.map S_Span.D, 2, false⟩), (1, ⟨zQ.map S_Span.D, 2, false⟩)]) (nxt := 2) (t := 25) (ty := ty25) (o := 0) (n := i4) (sz := 2) (sub := 0) (ob := ⟨zU.map S_Span.D, 2, false⟩) (e := S_Span.D x4) (d := .agg [I x4.lo, I x4.hi]) (by kernel_rfl) (by kernel_rfl) rfl (row_at (f := S_Span.D) hd4) (by kernel_rfl))
    cases h12 : (zm x4.lo) with
    | true =>
      cases h13 : (zm x4.hi) with
      | true =>
        cases h14 : decide (((zQ.length : Nat) : Int) > 0) with
        | true =>
          have g14 := of_decide_eq_true h14
          have p3 := (idx_row (C := cfg) (nxt := 3) (t := 23) (ty := ty23) (te := ty25) (e := 25) (o := 1) (len := zQ.length) (sz := 2) (cap := none) (i := w64 (((zQ.length : Nat) : Int) - 1)) (by kernel_rfl) rfl (by kernel_rfl) rfl (by simp only [List.length_append, List.length_cons, List.length_nil, za] at * <;> omega) (by simp only [List.length_append, List.length_cons, List.length_nil, za] at * <;> omega))
          have p4 := (load_row (C := cfg) (objs := [(0, ⟨zU.map S_Span.D, 2, false⟩), (1, ⟨zQ.map S_Span.D, 2, false⟩), (2, ⟨[.agg [I x4.lo, I x4.hi]], 2, false⟩)]) (nxt := 3) (t := 3) (ty := ty3) (o := 1) (n := (w64 (((zQ.length : Nat) : Int) - 1)).toNat) (sz := 2) (sub := 1) (ob := ⟨zQ.map S_Span.D, 2, false⟩) (e := S_Span.D (zQ.getD ((w64 (((zQ.length : Nat) : Int) - 1)).toNat) default)) (d := I ((zQ.getD ((w64 (((zQ.length : Nat) : Int) - 1)).toNat) default).hi)) (by kernel_rfl) (by kernel_rfl) rfl (row_get (f := S_Span.D) (by simp only [List.length_append, List.length_cons, List.length_nil, za] at * <;> omega)) (by kernel_rfl))
          cases h15 : decide (x4.lo ≤ (w64 (((zQ.getD ((w64 (((zQ.length : Nat) : Int) - 1)).toNat) default).hi) + 1))) with
          | true =>
            have g15 := of_decide_eq_true h15
            exact po_turn' (ks := [4, 10, 11, 12]) (st' := (sd25 zM i4 zU x4 zQ)) ((ranges_gathered_4a_l_o1 i4 x4) ++ ((ranges_gathered_4a_l_o2 x4 zQ) ++ [.dec true, .op (some 48) ⟨.lref 1 ((w64 (((zQ.length : Nat) : Int) - 1)).toNat) 2 0, [], [], 3⟩, .op (some 50) ⟨I ((zQ.getD ((w64 (((zQ.length : Nat) : Int) - 1)).toNat) default).hi), [], [1], 3⟩, .op (some 54) ⟨.lref 1 ((w64 (((zQ.length : Nat) : Int) - 1)).toNat) 2 0, [], [], 3⟩, .stS 1 ⟨.tup [], [(1, some ⟨(zQ.set ((w64 (((zQ.length : Nat) : Int) - 1)).toNat) (⟨(zQ.getD ((w64 (((zQ.length : Nat) : Int) - 1)).toNat) default).lo, zC ((zQ.getD ((w64 (((zQ.length : Nat) : Int) - 1)).toNat) default).hi) x4.hi⟩ : S_Span)).map S_Span.D, 2, false⟩)], [1], 3⟩, .rw 60 (I ((i4 + 1 : Nat) : Int))])) (And.intro (inc_rw (i := i4) (by have := zk hd4; omega)) (And.intro (store_row (C := cfg) (objs := [(0, ⟨zU.map S_Span.D, 2, false⟩), (1, ⟨zQ.map S_Span.D, 2, false⟩), (2, ⟨[.agg [I x4.lo, I x4.hi]], 2, false⟩)]) (nxt := 3) (t := 3) (ty := ty3) (o := 1) (n := (w64 (((zQ.length : Nat) : Int) - 1)).toNat) (sz := 2) (sub := 1) (els := zQ.map S_Span.D) (els' := (zQ.set ((w64 (((zQ.length : Nat) : Int) - 1)).toNat) (⟨(zQ.getD ((w64 (((zQ.length : Nat) : Int) - 1)).toNat) default).lo, zC ((zQ.getD ((w64 (((zQ.length : Nat) : Int) - 1)).toNat) default).hi) x4.hi⟩ : S_Span)).map S_Span.D) (e := S_Span.D (zQ.getD ((w64 (((zQ.length : Nat) : Int) - 1)).toNat) default)) (e' := S_Span.D (⟨(zQ.getD ((w64 (((zQ.length : Nat) : Int) - 1)).toNat) default).lo, zC ((zQ.getD ((w64 (((zQ.length : Nat) : Int) - 1)).toNat) default).hi) x4.hi⟩ : S_Span)) (v := I (zC ((zQ.getD ((w64 (((zQ.length : Nat) : Int) - 1)).toNat) default).hi) x4.hi)) (by kernel_rfl) (by kernel_rfl) (row_get (f := S_Span.D) (by simp only [List.length_append, List.length_cons, List.length_nil, za] at * <;> omega)) rfl (by kernel_rfl) rfl (by kernel_rfl) (row_set (f := S_Span.D))) (And.intro (idx_row (C := cfg) (nxt := 3) (t := 23) (ty := ty23) (te := ty25) (e := 25) (o := 1) (len := zQ.length) (sz := 2) (cap := none) (i := w64 (((zQ.length : Nat) : Int) - 1)) (by kernel_rfl) rfl (by kernel_rfl) rfl (by simp only [List.length_append, List.length_cons, List.length_nil, za] at * <;> omega) (by simp only [List.length_append, List.length_cons, List.length_nil, za] at * <;> omega)) (And.intro (load_row (C := cfg) (objs := [(0, ⟨zU.map S_Span.D, 2, false⟩), (1, ⟨zQ.map S_Span.D, 2, false⟩), (2, ⟨[.agg [I x4.lo, I x4.hi]], 2, false⟩)]) (nxt := 3) (t := 3) (ty := ty3) (o := 1) (n := (w64 (((zQ.length : Nat) : Int) - 1)).toNat) (sz := 2) (sub := 1) (ob := ⟨zQ.map S_Span.D, 2, false⟩) (e := S_Span.D (zQ.getD ((w64 (((zQ.length : Nat) : Int) - 1)).toNat) default)) (d := I ((zQ.getD ((w64 (((zQ.length : Nat) : Int) - 1)).toNat) default).hi)) (by kernel_rfl) (by kernel_rfl) rfl (row_get (f := S_Span.D) (by simp only [List.length_append, List.length_cons, List.length_nil, za] at * <;> omega)) (by kernel_rfl)) (And.intro (idx_row (C := cfg) (nxt := 3) (t := 23) (ty := ty23) (te := ty25) (e := 25) (o := 1) (len := zQ.length) (sz := 2) (cap := none) (i := w64 (((zQ.length : Nat) : Int) - 1)) (by kernel_rfl) rfl (by kernel_rfl) rfl (by simp only [List.length_append, List.length_cons, List.length_nil, za] at * <;> omega) (by simp only [List.length_append, List.length_cons, List.length_nil, za] at * <;> omega)) (And.intro h15 (And.intro p4 (And.intro p3 (And.intro h14 (And.intro h13 (And.intro (zu x4.hi) (And.intro h12 (And.intro (zu x4.lo) (And.intro p2 (And.intro p1 (And.intro (lt_at' hd4 hq4) trivial)))))))))))))))) (by kernel_rfl) (by (simp only [sd25, go_sem, List.length_set, Nat.reduceAdd, Nat.reduceEqDiff, Nat.reduceLT, Nat.reduceLeDiff, bI2, zi.idsL, zi.renL, zi.snapAll, z7.idsL, z7.renL, z7.snapAll]) <;> rfl) (ih (i4 + 1) (zQ.set ((w64 (((zQ.length : Nat) : Int) - 1)).toNat) (⟨(zQ.getD ((w64 (((zQ.length : Nat) : Int) - 1)).toNat) default).lo, zC ((zQ.getD ((w64 (((zQ.length : Nat) : Int) - 1)).toNat) default).hi) x4.hi⟩ : S_Span)) (zp hd4) (zk hd4) (by simp only [List.length_set] at * <;> omega) (by omega) (by simp only [List.length_set] at * <;> omega) (by omega)) (by kernel_rfl)
          | false =>
            have g15 := of_decide_eq_false h15
            exact po_turn' (ks := [4, 10, 11, 12]) (st' := (sd26 zM i4 zU x4 zQ)) ((ranges_gathered_4a_l_o1 i4 x4) ++ ((ranges_gathered_4a_l_o2 x4 zQ) ++ [.dec false, .op (some 59) ⟨.lsl 4 0 ((zQ ++ [x4]).length) 2 none, [(1, none), (4, some ⟨(zQ ++ [x4]).map S_Span.D, 2, false⟩)], [1, 3], 5⟩, .rw 60 (I ((i4 + 1 : Nat) : Int))])) (And.intro (inc_rw (i := i4) (by have := zk hd4; omega)) (And.intro (app_row (f := S_Span.D) (te := ty25) (gO := zj [(0, ⟨zU.map S_Span.D, 2, false⟩), (1, ⟨zQ.map S_Span.D, 2, false⟩), (2, ⟨[.agg [I x4.lo, I x4.hi]], 2, false⟩), (3, ⟨[.agg [I x4.lo, I x4.hi]], 2, false⟩)]) (nxt := 4) (o := 1) (o2 := 3) (fz := false) z7 zQ x4 (by kernel_rfl) (by kernel_rfl) rfl (by kernel_rfl) (by decide) ⟨by simp only [ty25, big] <;> (first | assumption | omega | (exact two_bd (by omega) (by omega)) | (simp only [za] at * <;> omega) | (simp only [srtL, GS.some_l, List.length_set, List.length_append, List.length_cons, List.length_nil] at * <;> first | with_reducible assumption | omega) | (simp only [srtL, GS.some_l, List.length_set, List.length_append, List.length_cons, List.length_nil, za] at * <;> first | with_reducible assumption | omega) | (simp at * <;> omega)), by simp only [big] <;> (first | assumption | omega | (exact two_bd (by omega) (by omega)) | (simp only [za] at * <;> omega) | (simp only [srtL, GS.some_l, List.length_set, List.length_append, List.length_cons, List.length_nil] at * <;> first | with_reducible assumption | omega) | (simp only [srtL, GS.some_l, List.length_set, List.length_append, List.length_cons, List.length_nil, za] at * <;> first | with_reducible assumption | omega) | (simp at * <;> omega))⟩) (And.intro h15 (And.intro p4 (And.intro p3 (And.intro h14 (And.intro h13 (And.intro (zu x4.hi) (And.intro h12 (And.intro (zu x4.lo) (And.intro p2 (And.intro p1 (And.intro (lt_at' hd4 hq4) trivial))))))))))))) (by kernel_rfl) (by (simp only [sd26, go_sem, List.length_set, Nat.reduceAdd, Nat.reduceEqDiff, Nat.reduceLT, Nat.reduceLeDiff, bI2, zi.idsL, zi.renL, zi.snapAll, z7.idsL, z7.renL, z7.snapAll]) <;> rfl) (ih (i4 + 1) (zQ ++ [x4]) (zp hd4) (zk hd4) (by simp only [List.length_append, List.length_cons, List.length_nil] at * <;> omega) (by omega) (by simp only [List.length_append, List.length_cons, List.length_nil] at * <;> omega) (by omega)) (by kernel_rfl)
        | false =>
          have g14 := of_decide_eq_false h14
          exact po_turn' (ks := [4, 10, 11, 12]) (st' := (sd27 zM i4 zU x4 zQ)) ((ranges_gathered_4a_l_o1 i4 x4) ++ [.dec true, .pure (B (zm x4.hi)), .dec true, .dec false, .op (some 59) ⟨.lsl 4 0 ((zQ ++ [x4]).length) 2 none, [(1, none), (4, some ⟨(zQ ++ [x4]).map S_Span.D, 2, false⟩)], [1, 3], 5⟩, .rw 60 (I ((i4 + 1 : Nat) : Int))]) (And.intro (inc_rw (i := i4) (by have := zk hd4; omega)) (And.intro (app_row (f := S_Span.D) (te := ty25) (gO := zj [(0, ⟨zU.map S_Span.D, 2, false⟩), (1, ⟨zQ.map S_Span.D, 2, false⟩), (2, ⟨[.agg [I x4.lo, I x4.hi]], 2, false⟩), (3, ⟨[.agg [I x4.lo, I x4.hi]], 2, false⟩)]) (nxt := 4) (o := 1) (o2 := 3) (fz := false) z7 zQ x4 (by kernel_rfl) (by kernel_rfl) rfl (by kernel_rfl) (by decide) ⟨by simp only [ty25, big] <;> (first | assumption | omega | (exact two_bd (by omega) (by omega)) | (simp only [za] at * <;> omega) | (simp only [srtL, GS.some_l, List.length_set, List.length_append, List.length_cons, List.length_nil] at * <;> first | with_reducible assumption | omega) | (simp only [srtL, GS.some_l, List.length_set, List.length_append, List.length_cons, List.length_nil, za] at * <;> first | with_reducible assumption | omega) | (simp at * <;> omega)), by simp only [big] <;> (first | assumption | omega | (exact two_bd (by omega) (by omega)) | (simp only [za] at * <;> omega) | (simp only [srtL, GS.some_l, List.length_set, List.length_append, List.length_cons, List.length_nil] at * <;> first | with_reducible assumption | omega) | (simp only [srtL, GS.some_l, List.length_set, List.length_append, List.length_cons, List.length_nil, za] at * <;> first | with_reducible assumption | omega) | (simp at * <;> omega))⟩) (And.intro h14 (And.intro h13 (And.intro (zu x4.hi) (And.intro h12 (And.intro (zu x4.lo) (And.intro p2 (And.intro p1 (And.intro (lt_at' hd4 hq4) trivial)))))))))) (by kernel_rfl) (by (simp only [sd27, go_sem, List.length_set, Nat.reduceAdd, Nat.reduceEqDiff, Nat.reduceLT, Nat.reduceLeDiff, bI2, zi.idsL, zi.renL, zi.snapAll, z7.idsL, z7.renL, z7.snapAll]) <;> rfl) (ih (i4 + 1) (zQ ++ [x4]) (zp hd4) (zk hd4) (by omega) (by omega) (by omega) (by omega)) (by kernel_rfl)
      | false =>
        exact zI ((ranges_gathered_4a_l_o1 i4 x4) ++ [.dec true, .pure (B (zm x4.hi)), .dec false]) (And.intro h13 (And.intro (zu x4.hi) (And.intro h12 (And.intro (zu x4.lo) (And.intro p2 (And.intro p1 (And.intro (lt_at' hd4 hq4) trivial))))))) (by kernel_rfl)
    | false =>
      exact zI ((ranges_gathered_4a_l_o1 i4 x4) ++ [.dec false]) (And.intro h12 (And.intro (zu x4.lo) (And.intro p2 (And.intro p1 (And.intro (lt_at' hd4 hq4) trivial))))) (by kernel_rfl)
theorem ivt_ranges_gathered_4a (zM : List S_Span) (zU : List S_Span) : ∀ (zR : List S_Span) (i4 : Nat) (zQ : List S_Span) (hd4 : zU.drop i4 = zR) (hi4 : i4 ≤ zU.length) (hz4_va4_0 : 1 ≤ zQ.length) (hq4 : zU.length = zM.length) (hg4_va4_0 : zQ.length ≤ i4) (hL4 : zU.length ≤ 1099511627776), iv_ranges_gathered_4 zM zU (zx zR i4 zQ) := by
  intro zR
  induction zR with
  | nil =>
    intro i4 zQ hd4 hi4 hz4_va4_0 hq4 hg4_va4_0 hL4
    unfold zx
    obtain rfl : i4 = zU.length := nil_eq hd4 hi4
    exact ⟨hz4_va4_0, hg4_va4_0⟩
  | cons x4 zR ih =>
    intro i4 zQ hd4 hi4 hz4_va4_0 hq4 hg4_va4_0 hL4
    have hlt4 := zk hd4
    unfold zx
    cases h12 : (zm x4.lo) with
    | true =>
      cases h13 : (zm x4.hi) with
      | true =>
        cases h14 : decide (((zQ.length : Nat) : Int) > 0) with
        | true =>
          have g14 := of_decide_eq_true h14
          cases h15 : decide (x4.lo ≤ (w64 (((zQ.getD ((w64 (((zQ.length : Nat) : Int) - 1)).toNat) default).hi) + 1))) with
          | true =>
            have g15 := of_decide_eq_true h15
            exact ih (i4 + 1) (zQ.set ((w64 (((zQ.length : Nat) : Int) - 1)).toNat) (⟨(zQ.getD ((w64 (((zQ.length : Nat) : Int) - 1)).toNat) default).lo, zC ((zQ.getD ((w64 (((zQ.length : Nat) : Int) - 1)).toNat) default).hi) x4.hi⟩ : S_Span)) (zp hd4) (zk hd4) (by simp only [List.length_set] at * <;> omega) (by omega) (by simp only [List.length_set] at * <;> omega) (by omega)
          | false =>
            have g15 := of_decide_eq_false h15
            exact ih (i4 + 1) (zQ ++ [x4]) (zp hd4) (zk hd4) (by simp only [List.length_append, List.length_cons, List.length_nil] at * <;> omega) (by omega) (by simp only [List.length_append, List.length_cons, List.length_nil] at * <;> omega) (by omega)
        | false =>
          have g14 := of_decide_eq_false h14
          exact ih (i4 + 1) (zQ ++ [x4]) (zp hd4) (zk hd4) (by omega) (by omega) (by omega) (by omega)
      | false =>
        exact ⟨hz4_va4_0, hg4_va4_0⟩
    | false =>
      exact ⟨hz4_va4_0, hg4_va4_0⟩
def ranges_gathered_4_l_o1 (i4 : Nat) (x4 : S_Span) : List Ora := [.dec true, .op (some 14) ⟨.lref 0 i4 2 0, [], [], 1⟩, .op (some 15) ⟨.agg [I x4.lo, I x4.hi], [], [0], 1⟩, .pure (B (zm x4.lo))]
theorem lp_ranges_gathered_4 (zM : List S_Span) (zU : List S_Span) : ∀ (zR : List S_Span) (i4 : Nat) (hd4 : zU.drop i4 = zR) (hi4 : i4 ≤ zU.length) (hq4 : zU.length = zM.length) (hL4 : zU.length ≤ 1099511627776), (lim cfg).loop 69 lp69_4 ⟨65, [(4, .sl true [] 0 none), (10, .lsl 0 0 zM.length 2 none), (11, I ((zM.length : Nat) : Int)), (12, I ((i4 : Nat) : Int))], [(0, ⟨zU.map S_Span.D, 2, false⟩)], 1, 1⟩ = some (lr_ranges_gathered_4 zM zU (ranges_gathered_4 zR i4)) := by
  intro zR
  induction zR with
  | nil =>
    intro i4 hd4 hi4 hq4 hL4
    unfold ranges_gathered_4
    obtain rfl : i4 = zU.length := nil_eq hd4 hi4
    exact zI [.dec false] (And.intro (lt_no' hd4 hq4) trivial) (by kernel_rfl)
  | cons x4 zR ih =>
    intro i4 hd4 hi4 hq4 hL4
    have hlt4 := zk hd4
    unfold ranges_gathered_4
    dsimp only
    have p1 := (idx_row (C := cfg) (nxt := 1) (t := 22) (ty := ty22) (te := ty25) (e := 25) (o := 0) (len := zM.length) (sz := 2) (cap := none) (i := ((i4 : Nat) : Int)) (by kernel_rfl) rfl (by kernel_rfl) rfl (by omega) (by omega))
    have p2 := (load_row (C := cfg) (objs := [(0, ⟨zU.map S_Span.D, 2, false⟩)]) (nxt := 1) (t := 25) (ty := ty25) (o := 0) (n := i4) (sz := 2) (sub := 0) (ob := ⟨zU.map S_Span.D, 2, false⟩) (e := S_Span.D x4) (d := .agg [I x4.lo, I x4.hi]) (by kernel_rfl) (by kernel_rfl) rfl (row_at (f := S_Span.D) hd4) (by kernel_rfl))
    cases h16 : (zm x4.lo) with
    | true =>
      cases h17 : (zm x4.hi) with
      | true =>
        exact po_turn' (ks := [4, 10, 11, 12]) (st' := (sd28 zM i4 zU x4)) ((ranges_gathered_4_l_o1 i4 x4) ++ [.dec true, .pure (B (zm x4.hi)), .dec true, .dec false, .rw 60 (I ((i4 + 1 : Nat) : Int))]) (And.intro (inc_rw (i := i4) (by have := zk hd4; omega)) (And.intro (Eq.refl false) (And.intro h17 (And.intro (zu x4.hi) (And.intro h16 (And.intro (zu x4.lo) (And.intro p2 (And.intro p1 (And.intro (lt_at' hd4 hq4) trivial))))))))) (by kernel_rfl) (by (simp only [sd28, go_sem, List.length_set, Nat.reduceAdd, Nat.reduceEqDiff, Nat.reduceLT, Nat.reduceLeDiff, bI2, zi.idsL, zi.renL, zi.snapAll, z7.idsL, z7.renL, z7.snapAll]) <;> rfl) (lp_ranges_gathered_4a zM zU _ (i4 + 1) [x4] (zp hd4) (zk hd4) (by simp only [List.length_append, List.length_cons, List.length_nil] at * <;> omega) (by omega) (by simp only [List.length_append, List.length_cons, List.length_nil] at * <;> omega) (by omega)) (by kernel_rfl)
      | false =>
        exact zI ((ranges_gathered_4_l_o1 i4 x4) ++ [.dec true, .pure (B (zm x4.hi)), .dec false]) (And.intro h17 (And.intro (zu x4.hi) (And.intro h16 (And.intro (zu x4.lo) (And.intro p2 (And.intro p1 (And.intro (lt_at' hd4 hq4) trivial))))))) (by kernel_rfl)
    | false =>
      exact zI ((ranges_gathered_4_l_o1 i4 x4) ++ [.dec false]) (And.intro h16 (And.intro (zu x4.lo) (And.intro p2 (And.intro p1 (And.intro (lt_at' hd4 hq4) trivial))))) (by kernel_rfl)
theorem ivt_ranges_gathered_4 (zM : List S_Span) (zU : List S_Span) : ∀ (zR : List S_Span) (i4 : Nat) (hd4 : zU.drop i4 = zR) (hi4 : i4 ≤ zU.length) (hq4 : zU.length = zM.length) (hL4 : zU.length ≤ 1099511627776), iv_ranges_gathered_4 zM zU (ranges_gathered_4 zR i4) := by
  intro zR
  induction zR with
  | nil =>
    intro i4 hd4 hi4 hq4 hL4
    unfold ranges_gathered_4
    obtain rfl : i4 = zU.length := nil_eq hd4 hi4
    exact trivial
  | cons x4 zR ih =>
    intro i4 hd4 hi4 hq4 hL4
    have hlt4 := zk hd4
    unfold ranges_gathered_4
    dsimp only
    cases h16 : (zm x4.lo) with
    | true =>
      cases h17 : (zm x4.hi) with
      | true =>
        exact ivt_ranges_gathered_4a zM zU _ (i4 + 1) [x4] (zp hd4) (zk hd4) (by simp only [List.length_append, List.length_cons, List.length_nil] at * <;> omega) (by omega) (by simp only [List.length_append, List.length_cons, List.length_nil] at * <;> omega) (by omega)
      | false =>
        exact trivial
    | false =>
      exact trivial

def ranges_Of (l : GS S_Span) : (GS S_Span) × Int :=
  match ranges_each_3 l.l with
  | .x0 zM =>
    match ranges_gathered_4 (srtG gcmp zM) 0 with
    | .x0 zQ =>
      bif decide (((zQ.length : Nat) : Int) > 64) then
        (GS.nil, 2)
      else
        (GS.some zQ, 0)
    | .x1 i4 x4 zQ =>
      (GS.nil, 2)
    | .x2 i4 x4 zQ =>
      (GS.nil, 2)
    | .x3 =>
      (GS.nil, 0)
    | .x4 i4 x4 =>
      (GS.nil, 2)
    | .x5 i4 x4 =>
      (GS.nil, 2)
  | .x1 =>
    (GS.nil, 0)

def sd24 (l : GS S_Span) (zM : List S_Span) : St := ⟨21, [(11, B false), (1, .fn (.func 90) [] []), (5, .lsl 0 0 zM.length 2 none), (8, .sl l.nl (l.l.map S_Span.D) (zsl l.nl 2) none), (9, I ((l.l.length : Nat) : Int)), (10, I ((l.l.length : Nat) : Int))], [(0, ⟨zM.map S_Span.D, 2, false⟩)], 1, 0⟩

def sd30 (zM : List S_Span) : St := ⟨65, [(4, .sl true [] 0 none), (10, .lsl 0 0 zM.length 2 none), (11, I ((zM.length : Nat) : Int)), (12, I 0)], [(0, ⟨(srtG gcmp zM).map S_Span.D, 2, false⟩)], 1, 1⟩

def sd31 (zM : List S_Span) (zQ : List S_Span) : St := ⟨65, [(13, B false), (4, .lsl 1 0 zQ.length 2 none), (10, .lsl 0 0 zM.length 2 none), (11, I ((zM.length : Nat) : Int)), (12, I (((srtG gcmp zM).length : Nat) : Int))], [(0, ⟨(srtG gcmp zM).map S_Span.D, 2, false⟩), (1, ⟨zQ.map S_Span.D, 2, false⟩)], 2, 1⟩

def sd29 (zM : List S_Span) : St := ⟨65, [(12, I 0), (11, I ((zM.length : Nat) : Int)), (10, .lsl 0 0 zM.length 2 none), (4, .sl true [] 0 none), (9, .tup []), (8, .lsl 0 0 zM.length 2 none), (3, I 0), (2, .sl true [] 0 none), (0, .lsl 0 0 zM.length 2 none)], [(0, ⟨(srtG gcmp zM).map S_Span.D, 2, false⟩)], 1, 1⟩

def sd32 (zM : List S_Span) (i4 : Nat) (x4 : S_Span) (zQ : List S_Span) : St := ⟨65, [(3, I 2), (2, .sl true [] 0 none), (25, B true), (24, B true), (23, B false), (22, I x4.hi), (21, .lref 2 0 2 1), (20, B false), (19, B false), (18, B true), (17, I x4.lo), (16, .lref 2 0 2 0), (6, .lref 2 0 2 0), (15, .agg [I x4.lo, I x4.hi]), (14, .lref 0 i4 2 0), (13, B true), (4, .lsl 1 0 zQ.length 2 none), (10, .lsl 0 0 zM.length 2 none), (11, I ((zM.length : Nat) : Int)), (12, I ((i4 : Nat) : Int))], [(0, ⟨(srtG gcmp zM).map S_Span.D, 2, false⟩), (1, ⟨zQ.map S_Span.D, 2, false⟩), (2, ⟨[.agg [I x4.lo, I x4.hi]], 2, false⟩)], 3, 1⟩

def sd33 (zM : List S_Span) (i4 : Nat) (x4 : S_Span) (zQ : List S_Span) : St := ⟨65, [(3, I 2), (2, .sl true [] 0 none), (25, B true), (24, .tup []), (23, .tup []), (22, .tup []), (21, .tup []), (20, B true), (19, B true), (18, B false), (17, I x4.lo), (16, .lref 2 0 2 0), (6, .lref 2 0 2 0), (15, .agg [I x4.lo, I x4.hi]), (14, .lref 0 i4 2 0), (13, B true), (4, .lsl 1 0 zQ.length 2 none), (10, .lsl 0 0 zM.length 2 none), (11, I ((zM.length : Nat) : Int)), (12, I ((i4 : Nat) : Int))], [(0, ⟨(srtG gcmp zM).map S_Span.D, 2, false⟩), (1, ⟨zQ.map S_Span.D, 2, false⟩), (2, ⟨[.agg [I x4.lo, I x4.hi]], 2, false⟩)], 3, 1⟩

def sd34 (zM : List S_Span) : St := ⟨65, [(13, B false), (4, .sl true [] 0 none), (10, .lsl 0 0 zM.length 2 none), (11, I ((zM.length : Nat) : Int)), (12, I (((srtG gcmp zM).length : Nat) : Int))], [(0, ⟨(srtG gcmp zM).map S_Span.D, 2, false⟩)], 1, 1⟩

def sd35 (zM : List S_Span) (i4 : Nat) (x4 : S_Span) : St := ⟨65, [(3, I 2), (2, .sl true [] 0 none), (25, B true), (24, B true), (23, B false), (22, I x4.hi), (21, .lref 1 0 2 1), (20, B false), (19, B false), (18, B true), (17, I x4.lo), (16, .lref 1 0 2 0), (6, .lref 1 0 2 0), (15, .agg [I x4.lo, I x4.hi]), (14, .lref 0 i4 2 0), (13, B true), (4, .sl true [] 0 none), (10, .lsl 0 0 zM.length 2 none), (11, I ((zM.length : Nat) : Int)), (12, I ((i4 : Nat) : Int))], [(0, ⟨(srtG gcmp zM).map S_Span.D, 2, false⟩), (1, ⟨[.agg [I x4.lo, I x4.hi]], 2, false⟩)], 2, 1⟩

def sd36 (zM : List S_Span) (i4 : Nat) (x4 : S_Span) : St := ⟨65, [(3, I 2), (2, .sl true [] 0 none), (25, B true), (24, .tup []), (23, .tup []), (22, .tup []), (21, .tup []), (20, B true), (19, B true), (18, B false), (17, I x4.lo), (16, .lref 1 0 2 0), (6, .lref 1 0 2 0), (15, .agg [I x4.lo, I x4.hi]), (14, .lref 0 i4 2 0), (13, B true), (4, .sl true [] 0 none), (10, .lsl 0 0 zM.length 2 none), (11, I ((zM.length : Nat) : Int)), (12, I ((i4 : Nat) : Int))], [(0, ⟨(srtG gcmp zM).map S_Span.D, 2, false⟩), (1, ⟨[.agg [I x4.lo, I x4.hi]], 2, false⟩)], 2, 1⟩

def sd37 (l : GS S_Span) : St := ⟨21, [(11, B false), (1, .fn (.func 90) [] []), (5, .sl true [] 0 none), (8, .sl l.nl (l.l.map S_Span.D) (zsl l.nl 2) none), (9, I ((l.l.length : Nat) : Int)), (10, I ((l.l.length : Nat) : Int))], [], 0, 0⟩

theorem T_ranges_Of (l : GS S_Span) (hL : l.l.length ≤ 1073741824) : (lim cfg).pure 33 [GS.D S_Span.D 2 l] = some (.tup [GS.D S_Span.D 2 ((ranges_Of l).1), I ((ranges_Of l).2)]) := by
  unfold ranges_Of
  cases h5 : ranges_each_3 l.l with
  | x0 zM =>
    try dsimp only
    have hv_h5 := ivt_ranges_each_3 l l.l 0 (List.drop_zero) (Nat.zero_le _) (by omega)
    rw [h5] at hv_h5
    have hv_h5_0 := hv_h5
    try dsimp only [iv_ranges_each_3] at hv_h5_0
    have p1 := (show (lim cfg).inl 70 [.sl l.nl (l.l.map S_Span.D) (zsl l.nl 2) none, .fn (.func 90) [] []] [] 0 = some (.lsl 0 0 zM.length 2 none, [(0, ⟨zM.map S_Span.D, 2, false⟩)], 1) from po_inl [.rw 9 (I ((l.l.length : Nat) : Int)), .loop (.exit 0) (sd24 l zM)] (And.intro (po_lr (q := lr_ranges_each_3 l) (lp_ranges_each_3 l l.l 0 (List.drop_zero) (Nat.zero_le _) (by omega)) h5) (And.intro (zb S_Span.D l) trivial)) (by kernel_rfl))
    cases h18 : ranges_gathered_4 (srtG gcmp zM) 0 with
    | x0 zQ =>
      try dsimp only
      have hv_h18 := ivt_ranges_gathered_4 zM (srtG gcmp zM) (srtG gcmp zM) 0 (List.drop_zero) (Nat.zero_le _) (by simp only [srtL, GS.some_l, List.length_set, List.length_append, List.length_cons, List.length_nil] at * <;> first | with_reducible assumption | omega) (by simp only [srtL, GS.some_l, List.length_set, List.length_append, List.length_cons, List.length_nil] at * <;> first | with_reducible assumption | omega)
      rw [h18] at hv_h18
      obtain ⟨hv_h18_0, hv_h18_1⟩ := hv_h18
      try dsimp only [iv_ranges_gathered_4] at hv_h18_0
      try dsimp only [iv_ranges_gathered_4] at hv_h18_1
      cases h19 : decide (((zQ.length : Nat) : Int) > 64) with
      | true =>
        have g19 := of_decide_eq_true h19
        exact ze [.inl (.lsl 0 0 zM.length 2 none) [(0, ⟨zM.map S_Span.D, 2, false⟩)] 1, .inlS [0] (.tup [.sl true [] 0 none, I 2]) [(0, ⟨(srtG gcmp zM).map S_Span.D, 2, false⟩), (1, ⟨zQ.map S_Span.D, 2, false⟩)] 2] (And.intro (And.intro (show zt [(0, ⟨zM.map S_Span.D, 2, false⟩)] 256 [0] [] = some [0] from (by (simp only [zt, go_sem, List.length_set, Nat.reduceAdd, Nat.reduceEqDiff, Nat.reduceLT, Nat.reduceLeDiff, bI2, zi.idsL, zi.renL, zi.snapAll, z7.idsL, z7.renL, z7.snapAll]) <;> rfl)) (show (lim cfg).inl 69 [.lsl 0 0 zM.length 2 none] [(0, ⟨zM.map S_Span.D, 2, false⟩)] 1 = some (.tup [.sl true [] 0 none, I 2], [(0, ⟨(srtG gcmp zM).map S_Span.D, 2, false⟩), (1, ⟨zQ.map S_Span.D, 2, false⟩)], 2) from po_inl [.inlS [0] (.tup []) [(0, ⟨(srtG gcmp zM).map S_Span.D, 2, false⟩)] 1, .gloop (sd30 zM) (.exit 0) (sd31 zM zQ), .dec true] (And.intro h19 (And.intro (po_lr (q := lr_ranges_gathered_4 zM (srtG gcmp zM)) (lp_ranges_gathered_4 zM (srtG gcmp zM) (srtG gcmp zM) 0 (List.drop_zero) (Nat.zero_le _) (by simp only [srtL, GS.some_l, List.length_set, List.length_append, List.length_cons, List.length_nil] at * <;> first | with_reducible assumption | omega) (by simp only [srtL, GS.some_l, List.length_set, List.length_append, List.length_cons, List.length_nil] at * <;> first | with_reducible assumption | omega)) h18) (And.intro (gc_of (C := cfg) (f := 69) (a := lp69_4) (ks := [4, 10, 11, 12]) (st := (sd29 zM)) (st1 := (sd30 zM)) (by kernel_rfl) (by (simp only [sd29, sd30, go_sem, List.length_set, Nat.reduceAdd, Nat.reduceEqDiff, Nat.reduceLT, Nat.reduceLeDiff, bI2, zi.idsL, zi.renL, zi.snapAll, z7.idsL, z7.renL, z7.snapAll]) <;> rfl)) (And.intro (And.intro (show zt [(0, ⟨zM.map S_Span.D, 2, false⟩)] 256 [0] [] = some [0] from (by (simp only [zt, go_sem, List.length_set, Nat.reduceAdd, Nat.reduceEqDiff, Nat.reduceLT, Nat.reduceLeDiff, bI2, zi.idsL, zi.renL, zi.snapAll, z7.idsL, z7.renL, z7.snapAll]) <;> rfl)) (T_sort 0 1 none zM (by omega))) trivial)))) (by kernel_rfl))) (And.intro p1 trivial)) (by kernel_rfl)
      | false =>
        have g19 := of_decide_eq_false h19
        exact po_pureS [.inl (.lsl 0 0 zM.length 2 none) [(0, ⟨zM.map S_Span.D, 2, false⟩)] 1, .inlS [0] (.tup [.lsl 1 0 zQ.length 2 none, I 0]) [(0, ⟨(srtG gcmp zM).map S_Span.D, 2, false⟩), (1, ⟨zQ.map S_Span.D, 2, false⟩)] 2] [(1, .sl false (zQ.map S_Span.D) 2 none, [1])] (And.intro (snap_row (gO := zj [(0, ⟨(srtG gcmp zM).map S_Span.D, 2, false⟩), (1, ⟨zQ.map S_Span.D, 2, false⟩)]) (o := 1) (len := zQ.length) (cap := none) (fz := false) z7 zQ (by kernel_rfl) (by omega)) (And.intro (And.intro (show zt [(0, ⟨zM.map S_Span.D, 2, false⟩)] 256 [0] [] = some [0] from (by (simp only [zt, go_sem, List.length_set, Nat.reduceAdd, Nat.reduceEqDiff, Nat.reduceLT, Nat.reduceLeDiff, bI2, zi.idsL, zi.renL, zi.snapAll, z7.idsL, z7.renL, z7.snapAll]) <;> rfl)) (show (lim cfg).inl 69 [.lsl 0 0 zM.length 2 none] [(0, ⟨zM.map S_Span.D, 2, false⟩)] 1 = some (.tup [.lsl 1 0 zQ.length 2 none, I 0], [(0, ⟨(srtG gcmp zM).map S_Span.D, 2, false⟩), (1, ⟨zQ.map S_Span.D, 2, false⟩)], 2) from po_inl [.inlS [0] (.tup []) [(0, ⟨(srtG gcmp zM).map S_Span.D, 2, false⟩)] 1, .gloop (sd30 zM) (.exit 0) (sd31 zM zQ), .dec false] (And.intro h19 (And.intro (po_lr (q := lr_ranges_gathered_4 zM (srtG gcmp zM)) (lp_ranges_gathered_4 zM (srtG gcmp zM) (srtG gcmp zM) 0 (List.drop_zero) (Nat.zero_le _) (by simp only [srtL, GS.some_l, List.length_set, List.length_append, List.length_cons, List.length_nil] at * <;> first | with_reducible assumption | omega) (by simp only [srtL, GS.some_l, List.length_set, List.length_append, List.length_cons, List.length_nil] at * <;> first | with_reducible assumption | omega)) h18) (And.intro (gc_of (C := cfg) (f := 69) (a := lp69_4) (ks := [4, 10, 11, 12]) (st := (sd29 zM)) (st1 := (sd30 zM)) (by kernel_rfl) (by (simp only [sd29, sd30, go_sem, List.length_set, Nat.reduceAdd, Nat.reduceEqDiff, Nat.reduceLT, Nat.reduceLeDiff, bI2, zi.idsL, zi.renL, zi.snapAll, z7.idsL, z7.renL, z7.snapAll]) <;> rfl)) (And.intro (And.intro (show zt [(0, ⟨zM.map S_Span.D, 2, false⟩)] 256 [0] [] = some [0] from (by (simp only [zt, go_sem, List.length_set, Nat.reduceAdd, Nat.reduceEqDiff, Nat.reduceLT, Nat.reduceLeDiff, bI2, zi.idsL, zi.renL, zi.snapAll, z7.idsL, z7.renL, z7.snapAll]) <;> rfl)) (T_sort 0 1 none zM (by omega))) trivial)))) (by kernel_rfl))) (And.intro p1 trivial))) (by kernel_rfl)
    | x1 i4 x4 zQ =>
      try dsimp only
      have hv_h18 := ivt_ranges_gathered_4 zM (srtG gcmp zM) (srtG gcmp zM) 0 (List.drop_zero) (Nat.zero_le _) (by simp only [srtL, GS.some_l, List.length_set, List.length_append, List.length_cons, List.length_nil] at * <;> first | with_reducible assumption | omega) (by simp only [srtL, GS.some_l, List.length_set, List.length_append, List.length_cons, List.length_nil] at * <;> first | with_reducible assumption | omega)
      rw [h18] at hv_h18
      obtain ⟨hv_h18_0, hv_h18_1⟩ := hv_h18
      try dsimp only [iv_ranges_gathered_4] at hv_h18_0
      try dsimp only [iv_ranges_gathered_4] at hv_h18_1
      exact ze [.inl (.lsl 0 0 zM.length 2 none) [(0, ⟨zM.map S_Span.D, 2, false⟩)] 1, .inlS [0] (.tup [.sl true [] 0 none, I 2]) [(0, ⟨(srtG gcmp zM).map S_Span.D, 2, false⟩), (1, ⟨zQ.map S_Span.D, 2, false⟩), (2, ⟨[.agg [I x4.lo, I x4.hi]], 2, false⟩)] 3] (And.intro (And.intro (show zt [(0, ⟨zM.map S_Span.D, 2, false⟩)] 256 [0] [] = some [0] from (by (simp only [zt, go_sem, List.length_set, Nat.reduceAdd, Nat.reduceEqDiff, Nat.reduceLT, Nat.reduceLeDiff, bI2, zi.idsL, zi.renL, zi.snapAll, z7.idsL, z7.renL, z7.snapAll]) <;> rfl)) (show (lim cfg).inl 69 [.lsl 0 0 zM.length 2 none] [(0, ⟨zM.map S_Span.D, 2, false⟩)] 1 = some (.tup [.sl true [] 0 none, I 2], [(0, ⟨(srtG gcmp zM).map S_Span.D, 2, false⟩), (1, ⟨zQ.map S_Span.D, 2, false⟩), (2, ⟨[.agg [I x4.lo, I x4.hi]], 2, false⟩)], 3) from po_inl [.inlS [0] (.tup []) [(0, ⟨(srtG gcmp zM).map S_Span.D, 2, false⟩)] 1, .gloop (sd30 zM) .ret (sd32 zM i4 x4 zQ)] (And.intro (po_lr (q := lr_ranges_gathered_4 zM (srtG gcmp zM)) (lp_ranges_gathered_4 zM (srtG gcmp zM) (srtG gcmp zM) 0 (List.drop_zero) (Nat.zero_le _) (by simp only [srtL, GS.some_l, List.length_set, List.length_append, List.length_cons, List.length_nil] at * <;> first | with_reducible assumption | omega) (by simp only [srtL, GS.some_l, List.length_set, List.length_append, List.length_cons, List.length_nil] at * <;> first | with_reducible assumption | omega)) h18) (And.intro (gc_of (C := cfg) (f := 69) (a := lp69_4) (ks := [4, 10, 11, 12]) (st := (sd29 zM)) (st1 := (sd30 zM)) (by kernel_rfl) (by (simp only [sd29, sd30, go_sem, List.length_set, Nat.reduceAdd, Nat.reduceEqDiff, Nat.reduceLT, Nat.reduceLeDiff, bI2, zi.idsL, zi.renL, zi.snapAll, z7.idsL, z7.renL, z7.snapAll]) <;> rfl)) (And.intro (And.intro (show zt [(0, ⟨zM.map S_Span.D, 2, false⟩)] 256 [0] [] = some [0] from (by (simp only [zt, go_sem, List.length_set, Nat.reduceAdd, Nat.reduceEqDiff, Nat.reduceLT, Nat.reduceLeDiff, bI2, zi.idsL, zi.renL, zi.snapAll, z7.idsL, z7.renL, z7.snapAll]) <;> rfl)) (T_sort 0 1 none zM (by omega))) trivial))) (by kernel_rfl))) (And.intro p1 trivial)) (by kernel_rfl)
    | x2 i4 x4 zQ =>
      try dsimp only
      have hv_h18 := ivt_ranges_gathered_4 zM (srtG gcmp zM) (srtG gcmp zM) 0 (List.drop_zero) (Nat.zero_le _) (by simp only [srtL, GS.some_l, List.length_set, List.length_append, List.length_cons, List.length_nil] at * <;> first | with_reducible assumption | omega) (by simp only [srtL, GS.some_l, List.length_set, List.length_append, List.length_cons, List.length_nil] at * <;> first | with_reducible assumption | omega)
      rw [h18] at hv_h18
      obtain ⟨hv_h18_0, hv_h18_1⟩ := hv_h18
      try dsimp only [iv_ranges_gathered_4] at hv_h18_0
      try dsimp only [iv_ranges_gathered_4] at hv_h18_1
      exact ze [.inl (.lsl 0 0 zM.length 2 none) [(0, ⟨zM.map S_Span.D, 2, false⟩)] 1, .inlS [0] (.tup [.sl true [] 0 none, I 2]) [(0, ⟨(srtG gcmp zM).map S_Span.D, 2, false⟩), (1, ⟨zQ.map S_Span.D, 2, false⟩), (2, ⟨[.agg [I x4.lo, I x4.hi]], 2, false⟩)] 3] (And.intro (And.intro (show zt [(0, ⟨zM.map S_Span.D, 2, false⟩)] 256 [0] [] = some [0] from (by (simp only [zt, go_sem, List.length_set, Nat.reduceAdd, Nat.reduceEqDiff, Nat.reduceLT, Nat.reduceLeDiff, bI2, zi.idsL, zi.renL, zi.snapAll, z7.idsL, z7.renL, z7.snapAll]) <;> rfl)) (show (lim cfg).inl 69 [.lsl 0 0 zM.length 2 none] [(0, ⟨zM.map S_Span.D, 2, false⟩)] 1 = some (.tup [.sl true [] 0 none, I 2], [(0, ⟨(srtG gcmp zM).map S_Span.D, 2, false⟩), (1, ⟨zQ.map S_Span.D, 2, false⟩), (2, ⟨[.agg [I x4.lo, I x4.hi]], 2, false⟩)], 3) from po_inl [.inlS [0] (.tup []) [(0, ⟨(srtG gcmp zM).map S_Span.D, 2, false⟩)] 1, .gloop (sd30 zM) .ret (sd33 zM i4 x4 zQ)] (And.intro (po_lr (q := lr_ranges_gathered_4 zM (srtG gcmp zM)) (lp_ranges_gathered_4 zM (srtG gcmp zM) (srtG gcmp zM) 0 (List.drop_zero) (Nat.zero_le _) (by simp only [srtL, GS.some_l, List.length_set, List.length_append, List.length_cons, List.length_nil] at * <;> first | with_reducible assumption | omega) (by simp only [srtL, GS.some_l, List.length_set, List.length_append, List.length_cons, List.length_nil] at * <;> first | with_reducible assumption | omega)) h18) (And.intro (gc_of (C := cfg) (f := 69) (a := lp69_4) (ks := [4, 10, 11, 12]) (st := (sd29 zM)) (st1 := (sd30 zM)) (by kernel_rfl) (by (simp only [sd29, sd30, go_sem, List.length_set, Nat.reduceAdd, Nat.reduceEqDiff, Nat.reduceLT, Nat.reduceLeDiff, bI2, zi.idsL, zi.renL, zi.snapAll, z7.idsL, z7.renL, z7.snapAll]) <;> rfl)) (And.intro (And.intro (show zt [(0, ⟨zM.map S_Span.D, 2, false⟩)] 256 [0] [] = some [0] from (by (simp only [zt, go_sem, List.length_set, Nat.reduceAdd, Nat.reduceEqDiff, Nat.reduceLT, Nat.reduceLeDiff, bI2, zi.idsL, zi.renL, zi.snapAll, z7.idsL, z7.renL, z7.snapAll]) <;> rfl)) (T_sort 0 1 none zM (by omega))) trivial))) (by kernel_rfl))) (And.intro p1 trivial)) (by kernel_rfl)
    | x3 =>
      try dsimp only
      exact ze [.inl (.lsl 0 0 zM.length 2 none) [(0, ⟨zM.map S_Span.D, 2, false⟩)] 1, .inlS [0] (.tup [.sl true [] 0 none, I 0]) [(0, ⟨(srtG gcmp zM).map S_Span.D, 2, false⟩)] 1] (And.intro (And.intro (show zt [(0, ⟨zM.map S_Span.D, 2, false⟩)] 256 [0] [] = some [0] from (by (simp only [zt, go_sem, List.length_set, Nat.reduceAdd, Nat.reduceEqDiff, Nat.reduceLT, Nat.reduceLeDiff, bI2, zi.idsL, zi.renL, zi.snapAll, z7.idsL, z7.renL, z7.snapAll]) <;> rfl)) (show (lim cfg).inl 69 [.lsl 0 0 zM.length 2 none] [(0, ⟨zM.map S_Span.D, 2, false⟩)] 1 = some (.tup [.sl true [] 0 none, I 0], [(0, ⟨(srtG gcmp zM).map S_Span.D, 2, false⟩)], 1) from po_inl [.inlS [0] (.tup []) [(0, ⟨(srtG gcmp zM).map S_Span.D, 2, false⟩)] 1, .gloop (sd30 zM) (.exit 0) (sd34 zM), .dec false] (And.intro (Eq.refl false) (And.intro (po_lr (q := lr_ranges_gathered_4 zM (srtG gcmp zM)) (lp_ranges_gathered_4 zM (srtG gcmp zM) (srtG gcmp zM) 0 (List.drop_zero) (Nat.zero_le _) (by simp only [srtL, GS.some_l, List.length_set, List.length_append, List.length_cons, List.length_nil] at * <;> first | with_reducible assumption | omega) (by simp only [srtL, GS.some_l, List.length_set, List.length_append, List.length_cons, List.length_nil] at * <;> first | with_reducible assumption | omega)) h18) (And.intro (gc_of (C := cfg) (f := 69) (a := lp69_4) (ks := [4, 10, 11, 12]) (st := (sd29 zM)) (st1 := (sd30 zM)) (by kernel_rfl) (by (simp only [sd29, sd30, go_sem, List.length_set, Nat.reduceAdd, Nat.reduceEqDiff, Nat.reduceLT, Nat.reduceLeDiff, bI2, zi.idsL, zi.renL, zi.snapAll, z7.idsL, z7.renL, z7.snapAll]) <;> rfl)) (And.intro (And.intro (show zt [(0, ⟨zM.map S_Span.D, 2, false⟩)] 256 [0] [] = some [0] from (by (simp only [zt, go_sem, List.length_set, Nat.reduceAdd, Nat.reduceEqDiff, Nat.reduceLT, Nat.reduceLeDiff, bI2, zi.idsL, zi.renL, zi.snapAll, z7.idsL, z7.renL, z7.snapAll]) <;> rfl)) (T_sort 0 1 none zM (by omega))) trivial)))) (by kernel_rfl))) (And.intro p1 trivial)) (by kernel_rfl)
    | x4 i4 x4 =>
      try dsimp only
      exact ze [.inl (.lsl 0 0 zM.length 2 none) [(0, ⟨zM.map S_Span.D, 2, false⟩)] 1, .inlS [0] (.tup [.sl true [] 0 none, I 2]) [(0, ⟨(srtG gcmp zM).map S_Span.D, 2, false⟩), (1, ⟨[.agg [I x4.lo, I x4.hi]], 2, false⟩)] 2] (And.intro (And.intro (show zt [(0, ⟨zM.map S_Span.D, 2, false⟩)] 256 [0] [] = some [0] from (by (simp only [zt, go_sem, List.length_set, Nat.reduceAdd, Nat.reduceEqDiff, Nat.reduceLT, Nat.reduceLeDiff, bI2, zi.idsL, zi.renL, zi.snapAll, z7.idsL, z7.renL, z7.snapAll]) <;> rfl)) (show (lim cfg).inl 69 [.lsl 0 0 zM.length 2 none] [(0, ⟨zM.map S_Span.D, 2, false⟩)] 1 = some (.tup [.sl true [] 0 none, I 2], [(0, ⟨(srtG gcmp zM).map S_Span.D, 2, false⟩), (1, ⟨[.agg [I x4.lo, I x4.hi]], 2, false⟩)], 2) from po_inl [.inlS [0] (.tup []) [(0, ⟨(srtG gcmp zM).map S_Span.D, 2, false⟩)] 1, .gloop (sd30 zM) .ret (sd35 zM i4 x4)] (And.intro (po_lr (q := lr_ranges_gathered_4 zM (srtG gcmp zM)) (lp_ranges_gathered_4 zM (srtG gcmp zM) (srtG gcmp zM) 0 (List.drop_zero) (Nat.zero_le _) (by simp only [srtL, GS.some_l, List.length_set, List.length_append, List.length_cons, List.length_nil] at * <;> first | with_reducible assumption | omega) (by simp only [srtL, GS.some_l, List.length_set, List.length_append, List.length_cons, List.length_nil] at * <;> first | with_reducible assumption | omega)) h18) (And.intro (gc_of (C := cfg) (f := 69) (a := lp69_4) (ks := [4, 10, 11, 12]) (st := (sd29 zM)) (st1 := (sd30 zM)) (by kernel_rfl) (by (simp only [sd29, sd30, go_sem, List.length_set, Nat.reduceAdd, Nat.reduceEqDiff, Nat.reduceLT, Nat.reduceLeDiff, bI2, zi.idsL, zi.renL, zi.snapAll, z7.idsL, z7.renL, z7.snapAll]) <;> rfl)) (And.intro (And.intro (show zt [(0, ⟨zM.map S_Span.D, 2, false⟩)] 256 [0] [] = some [0] from (by (simp only [zt, go_sem, List.length_set, Nat.reduceAdd, Nat.reduceEqDiff, Nat.reduceLT, Nat.reduceLeDiff, bI2, zi.idsL, zi.renL, zi.snapAll, z7.idsL, z7.renL, z7.snapAll]) <;> rfl)) (T_sort 0 1 none zM (by omega))) trivial))) (by kernel_rfl))) (And.intro p1 trivial)) (by kernel_rfl)
    | x5 i4 x4 =>
      try dsimp only
      exact ze [.inl (.lsl 0 0 zM.length 2 none) [(0, ⟨zM.map S_Span.D, 2, false⟩)] 1, .inlS [0] (.tup [.sl true [] 0 none, I 2]) [(0, ⟨(srtG gcmp zM).map S_Span.D, 2, false⟩), (1, ⟨[.agg [I x4.lo, I x4.hi]], 2, false⟩)] 2] (And.intro (And.intro (show zt [(0, ⟨zM.map S_Span.D, 2, false⟩)] 256 [0] [] = some [0] from (by (simp only [zt, go_sem, List.length_set, Nat.reduceAdd, Nat.reduceEqDiff, Nat.reduceLT, Nat.reduceLeDiff, bI2, zi.idsL, zi.renL, zi.snapAll, z7.idsL, z7.renL, z7.snapAll]) <;> rfl)) (show (lim cfg).inl 69 [.lsl 0 0 zM.length 2 none] [(0, ⟨zM.map S_Span.D, 2, false⟩)] 1 = some (.tup [.sl true [] 0 none, I 2], [(0, ⟨(srtG gcmp zM).map S_Span.D, 2, false⟩), (1, ⟨[.agg [I x4.lo, I x4.hi]], 2, false⟩)], 2) from po_inl [.inlS [0] (.tup []) [(0, ⟨(srtG gcmp zM).map S_Span.D, 2, false⟩)] 1, .gloop (sd30 zM) .ret (sd36 zM i4 x4)] (And.intro (po_lr (q := lr_ranges_gathered_4 zM (srtG gcmp zM)) (lp_ranges_gathered_4 zM (srtG gcmp zM) (srtG gcmp zM) 0 (List.drop_zero) (Nat.zero_le _) (by simp only [srtL, GS.some_l, List.length_set, List.length_append, List.length_cons, List.length_nil] at * <;> first | with_reducible assumption | omega) (by simp only [srtL, GS.some_l, List.length_set, List.length_append, List.length_cons, List.length_nil] at * <;> first | with_reducible assumption | omega)) h18) (And.intro (gc_of (C := cfg) (f := 69) (a := lp69_4) (ks := [4, 10, 11, 12]) (st := (sd29 zM)) (st1 := (sd30 zM)) (by kernel_rfl) (by (simp only [sd29, sd30, go_sem, List.length_set, Nat.reduceAdd, Nat.reduceEqDiff, Nat.reduceLT, Nat.reduceLeDiff, bI2, zi.idsL, zi.renL, zi.snapAll, z7.idsL, z7.renL, z7.snapAll]) <;> rfl)) (And.intro (And.intro (show zt [(0, ⟨zM.map S_Span.D, 2, false⟩)] 256 [0] [] = some [0] from (by (simp only [zt, go_sem, List.length_set, Nat.reduceAdd, Nat.reduceEqDiff, Nat.reduceLT, Nat.reduceLeDiff, bI2, zi.idsL, zi.renL, zi.snapAll, z7.idsL, z7.renL, z7.snapAll]) <;> rfl)) (T_sort 0 1 none zM (by omega))) trivial))) (by kernel_rfl))) (And.intro p1 trivial)) (by kernel_rfl)
  | x1 =>
    try dsimp only
    exact ze [.inl (.sl true [] 0 none) [] 0, .inl (.tup [.sl true [] 0 none, I 0]) [] 0] (And.intro (show (lim cfg).inl 69 [.sl true [] 0 none] [] 0 = some (.tup [.sl true [] 0 none, I 0], [], 0) from po_inl [.inl (.tup []) [] 0, .loop (.exit 0) ⟨65, [(13, B false), (4, .sl true [] 0 none), (10, .sl true [] 0 none), (11, I 0), (12, I 0)], [], 0, 0⟩, .dec false] (And.intro (Eq.refl false) (And.intro (show (lim cfg).loop 69 lp69_4 ⟨65, [(4, .sl true [] 0 none), (10, .sl true [] 0 none), (11, I 0), (12, I 0)], [], 0, 0⟩ = some ((.exit 0), ⟨65, [(13, B false), (4, .sl true [] 0 none), (10, .sl true [] 0 none), (11, I 0), (12, I 0)], [], 0, 0⟩) from (zI [.dec false] (And.intro (Eq.refl false) trivial) (by kernel_rfl))) (And.intro (T_sort_nil 0) trivial))) (by kernel_rfl)) (And.intro (show (lim cfg).inl 70 [.sl l.nl (l.l.map S_Span.D) (zsl l.nl 2) none, .fn (.func 90) [] []] [] 0 = some (.sl true [] 0 none, [], 0) from po_inl [.rw 9 (I ((l.l.length : Nat) : Int)), .loop (.exit 0) (sd37 l)] (And.intro (po_lr (q := lr_ranges_each_3 l) (lp_ranges_each_3 l l.l 0 (List.drop_zero) (Nat.zero_le _) (by omega)) h5) (And.intro (zb S_Span.D l) trivial)) (by kernel_rfl)) trivial)) (by kernel_rfl)
end Go.VS

