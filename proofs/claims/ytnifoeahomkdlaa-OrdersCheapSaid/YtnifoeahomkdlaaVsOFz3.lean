/- Nothing of a statement is proved in this text alone: it is part 3 of the proof's own tools, an evaluator of the code over deep values, its soundness, and what it makes of this seat's functions. Conditions: none beyond the statement's own. -/
import Derived.Test.YtnifoeahomkdlaaVsOFz2
import Derived.Shelf.SlSortCmp.WholeK
set_option linter.unusedSimpArgs false
set_option linter.unusedVariables false
/-
  VS, part S2: slices.SortFunc at pairs, over objects. (A text of this claim's own; nothing of it is trusted.)
-/
namespace Go.VS
open Go Go.RowKit Go.Proofs Go.Sort Go.Shelf
/-- What a sort leaves, to the element. -/
def srtP (cf : Int × Int → Int × Int → Int) (l : List (Int × Int)) : List (Int × Int) := (pdq (ltOf cf) l.toArray 0 l.length (Lib.bitLen l.length) true true).toList
section
variable {cf : Int × Int → Int × Int → Int}
theorem srtP_in (hO : SWO (ltOf cf)) (l : List (Int × Int)) : PermIn 0 l.length l.toArray (pdq (ltOf cf) l.toArray 0 l.length (Lib.bitLen l.length) true true) ∧ SortedIn (ltOf cf) 0 l.length (pdq (ltOf cf) l.toArray 0 l.length (Lib.bitLen l.length) true true) :=
  pdq_sorts (ltOf cf) hO l.toArray 0 l.length (Lib.bitLen l.length) true true (Nat.zero_le _) (by simp) (Or.inl rfl)
theorem srtP_perm (hO : SWO (ltOf cf)) (l : List (Int × Int)) : List.Perm (srtP cf l) l := by
  have h := (srtP_in hO l).1
  have h1 := h.1
  have h2 := h.2.2
  have e1 : ∀ d : Array (Int × Int), d.size = l.length → d.extract 0 l.length = d := fun d hd => by rw [← hd]; exact Array.extract_size
  rw [e1 _ (by simpa using h1), e1 _ (by simp)] at h2
  exact h2
theorem srtP_len (hO : SWO (ltOf cf)) (l : List (Int × Int)) : (srtP cf l).length = l.length := (srtP_perm hO l).length_eq
theorem srtP_sorted (hO : SWO (ltOf cf)) (l : List (Int × Int)) : (srtP cf l).Pairwise (fun x y => ltOf cf y x = false) := by
  have h := (srtP_in hO l)
  rw [List.pairwise_iff_getElem]
  intro i j hi hj hij
  have hs : (pdq (ltOf cf) l.toArray 0 l.length (Lib.bitLen l.length) true true).size = l.length := by simpa using h.1.1
  have hi' : i < l.length := by rw [← srtP_len hO l]; exact hi
  have hj' : j < l.length := by rw [← srtP_len hO l]; exact hj
  have k := h.2 i j (Nat.zero_le _) hij hj'
  rw [getElem!_pos _ i (by omega), getElem!_pos _ j (by omega)] at k
  exact k
end
section
variable {C : Cfg} {ρ : Ren} {E : Env} {M : Mem} {m : Loc} {w : World}
theorem grown_of {W w' : World} (h1 : w'.os = W.os) (h2 : W.drawn ≤ w'.drawn) (h3 : w'.tape = W.tape) (h4 : w'.output = W.output) (h5 : W.heap.size ≤ w'.heap.size) (h6 : ∀ b, b < W.heap.size → w'.heap[b]? = W.heap[b]?) :
    ∃ q os', w' = grow (W.drewN q) os' := by
  refine ⟨w'.drawn - W.drawn, w'.heap.extract W.heap.size w'.heap.size, ?_⟩
  unfold grow World.drewN
  have e1 : W.heap ++ w'.heap.extract W.heap.size w'.heap.size = w'.heap := by
    refine Array.ext_getElem? fun i => ?_
    rw [Array.getElem?_append]
    split
    · rename_i hi; exact (h6 i hi).symm
    · rename_i hi
      rw [Array.getElem?_extract]
      by_cases hlt : i < w'.heap.size
      · rw [if_pos (by omega)]; congr 1; omega
      · rw [if_neg (by omega), Array.getElem?_eq_none (by omega)]
  cases w'
  simp only [] at *
  subst h1 h3 h4
  simp only [World.mk.injEq, e1, true_and, and_true]
  omega
theorem cmp_lays {g : Nat} {cf : Int × Int → Int × Int → Int} (hcmp : ∀ x y, PureOK C g [pairD x, pairD y] (I (cf x y))) {o : Nat} {l : List (Int × Int)} (h : Rel E M m w (zD [(o, ⟨l.map pairD, 2, false⟩)])) (hG : yg C M) {b s : Nat} (hb : m o = some (b, s)) :
    CmpLays C.P g #[] pairV 2 cf b 0 l.length w := by
  intro n os dk hdk x y
  have hR := rel_sort h hb dk.toList (by simpa using hdk) n os
  have hdl : dk.toList.toArray = dk := by simp
  rw [hdl] at hR
  have hr : zM M noLoc [pairD x, pairD y] (#[Value.agg (pairV x).toArray, Value.agg (pairV y).toArray] ++ #[] : Array Value).toList := by
    show zM M noLoc [pairD x, pairD y] [.agg (pairV x).toArray, .agg (pairV y).toArray]
    simp only [zM]
    exact ⟨_, _, rfl, pairD_rep x, _, _, rfl, pairD_rep y, rfl⟩
  have hk := hcmp x y M _ _ hR.mok hG hr
  generalize sortWorldK pairV 2 w b 0 n dk os = W at hk ⊢
  refine hk.mono ?_
  · rintro e w' ⟨v, M', rfl, _, _, k3, k4, k5, k6, k7, k8, _⟩
    simp only [Rep] at k3
    subst k3
    exact ⟨rfl, grown_of k4.1 k4.2 k5 k6 k7 k8⟩
/-- slices.SortFunc over an object of the caller's own. -/
theorem sort_inl (L : SlLaysF0.n6 C.P ρ) (hC : CfgOK C) (aE : ∀ w, (isAgg (ρ.t 24)).run C.P w = .ok true w) (zE : ∀ w, (Go.sizeOf (ρ.t 24)).run C.P w = .ok 2 w) {cf : Int × Int → Int × Int → Int} (hO : SWO (ltOf cf)) {g : Nat} {fg : Func} (hg : C.fn g = some fg)
    (hcmp : ∀ x y, PureOK C g [pairD x, pairD y] (I (cf x y))) (o nxt : Nat) (cap : Option Nat) (l : List (Int × Int)) (hl : l.length ≤ 1099511627776) :
    InlOK C (ρ.f 6) [.lsl o 0 l.length 2 cap, .fn (.func g) [] []] [(o, ⟨l.map pairD, 2, false⟩)] nxt (.tup []) [(o, ⟨(srtP cf l).map pairD, 2, false⟩)] nxt := by
  intro E M m w vs hR hG hA hf ho
  simp only [zM, Rep] at hA
  obtain ⟨v, r, e0, ⟨b, s, c, hb, rfl, hn, _⟩, v2, r2, rfl, ⟨xs, ys, rfl, hx, hy⟩, rfl⟩ := hA
  have hx' : xs = #[] := by cases xs; simp_all
  have hy' : ys = #[] := by cases ys; simp_all
  subst hx' hy'
  have hvs : vs = #[.slice (some ⟨b, 0, none⟩) l.toArray.size c, .func (.func g) #[] #[]] := by
    cases vs
    simp only [] at e0
    subst e0
    simp
  obtain ⟨hH, hblk⟩ := holds_row hR hb
  have hc := AnyQ.slices_SortFunc_eq L 2 aE zE pairV (fun _ => rfl) (fun x v hv => by simp [pairV] at hv; rcases hv with rfl | rfl <;> rfl) cf hO g #[] b 0 c l.toArray w (fun args w => run_callFunc hC hg args) (cmp_lays hcmp hR hG hb) hH hblk (by simp; omega)
  rw [hvs]
  refine hc.mono ?_
  rintro e w' ⟨rfl, n, os, rfl⟩
  refine ⟨_, M, m, rfl, MLe.refl _, fun _ _ => rfl, fun x hx hx' => hf x hx', ?_, ?_⟩
  · simp only [Rep]; exact ⟨#[], rfl, by simp [zM]⟩
  · have k := rel_sort hR hb (srtP cf l) (srtP_len hO l) n os
    unfold srtP at k ⊢
    simpa using k
end
end Go.VS

/-
  VS, part S3: slices.SortFunc at pairs, as a contract for the evaluator. (A text of this claim's own; nothing of it is trusted.)
-/
namespace Go.VS
open Go Go.RowKit Go.Proofs Go.Sort Go.Shelf
def unI : D → Option Int
  | .val v => match v with
    | .int k n => match k with
      | .i64 => some n
      | _ => none
    | _ => none
  | _ => none
def unP : D → Option (Int × Int)
  | .agg cs => match cs with
    | [a, b] => match unI a, unI b with
      | some x, some y => some (x, y)
      | _, _ => none
    | _ => none
  | _ => none
def unPs : List D → Option (List (Int × Int))
  | [] => some []
  | d :: ds => match unP d, unPs ds with
    | some x, some l => some (x :: l)
    | _, _ => none
theorem unI_eq {d : D} {n : Int} (h : unI d = some n) : d = I n := by
  unfold unI at h
  split at h
  · split at h
    · split at h
      · cases h; rfl
      · cases h
    · cases h
  · cases h
theorem unP_eq {d : D} {x : Int × Int} (h : unP d = some x) : d = pairD x := by
  unfold unP at h
  split at h
  · split at h
    · split at h
      · rename_i e1 e2; cases h; rw [unI_eq e1, unI_eq e2]; rfl
      · cases h
    · cases h
  · cases h
theorem unPs_eq : ∀ {ds : List D} {l : List (Int × Int)}, unPs ds = some l → ds = l.map pairD
  | [], l, h => by simp [unPs] at h; subst h; rfl
  | d :: ds, l, h => by
    unfold unPs at h
    split at h
    · rename_i e1 e2; cases h; rw [unP_eq e1, unPs_eq e2]; rfl
    · cases h
theorem unPs_map (l : List (Int × Int)) : unPs (l.map pairD) = some l := by
  induction l with
  | nil => rfl
  | cons x l ih => simp only [List.map_cons, unPs, ih]; rfl
/-- What the sort does to the call's own row. -/
def sortX (g : FuncId) (cf : Int × Int → Int × Int → Int) (args : List D) (objs : List (Nat × Ob)) (nxt : Nat) : Option (D × List (Nat × Ob) × Nat) :=
  match args, objs with
  | [.lsl o off n sz _, .fn (.func g') [] []], [(o', ob)] =>
    if o' = o ∧ off = 0 ∧ sz = 2 ∧ g' = g ∧ ob.sz = 2 ∧ ob.froz = false ∧ n = ob.els.length ∧ n ≤ 1099511627776 then
      match unPs ob.els with
      | some l => some (.tup [], [(o, ⟨(srtP cf l).map pairD, 2, false⟩)], nxt)
      | none => none
    else none
  | _, _ => none
section
variable {C : Cfg} {ρ : Ren}
theorem sortX_ok (L : SlLaysF0.n6 C.P ρ) (hC : CfgOK C) (aE : ∀ w, (isAgg (ρ.t 24)).run C.P w = .ok true w) (zE : ∀ w, (Go.sizeOf (ρ.t 24)).run C.P w = .ok 2 w) {cf : Int × Int → Int × Int → Int} (hO : SWO (ltOf cf)) {g : Nat} {fg : Func} (hg : C.fn g = some fg)
    (hcmp : ∀ x y, PureOK C g [pairD x, pairD y] (I (cf x y))) {args : List D} {objs objs' : List (Nat × Ob)} {nxt nxt' : Nat} {d : D} (h : sortX g cf args objs nxt = some (d, objs', nxt')) : InlOK C (ρ.f 6) args objs nxt d objs' nxt' := by
  unfold sortX at h
  split at h
  · rename_i o off n sz cap g' o' ob
    split at h
    · rename_i hc
      obtain ⟨rfl, rfl, rfl, rfl, h1, h2, rfl, h4⟩ := hc
      split at h
      · rename_i l hl
        cases h
        obtain ⟨els, sz, fr⟩ := ob
        simp only at h1 h2 hl h4
        subst h1 h2
        have := unPs_eq hl
        subst this
        rw [List.length_map] at h4 ⊢
        exact sort_inl L hC aE zE hO hg hcmp o' nxt cap l h4
      · cases h
    · cases h
  · cases h
/-- .. as it is met: at the rows of a structure of two numbers. -/
theorem sortX_at {α : Type} {f : α → D} {to : α → Int × Int} {of : Int × Int → α} (hf : ∀ x, f x = pairD (to x)) (ho : ∀ p, f (of p) = pairD p) {g : Nat} {cf : Int × Int → Int × Int → Int} (o nxt : Nat) (cap : Option Nat) (l : List α) (hl : l.length ≤ 1099511627776) :
    sortX g cf [.lsl o 0 l.length 2 cap, .fn (.func g) [] []] [(o, ⟨l.map f, 2, false⟩)] nxt = some (.tup [], [(o, ⟨((srtP cf (l.map to)).map of).map f, 2, false⟩)], nxt) := by
  have e1 : l.map f = (l.map to).map pairD := by rw [List.map_map]; exact List.map_congr_left fun x _ => hf x
  have e2 : ((srtP cf (l.map to)).map of).map f = (srtP cf (l.map to)).map pairD := by rw [List.map_map]; exact List.map_congr_left fun x _ => ho x
  unfold sortX
  simp only [e1, e2, List.length_map, hl, and_self, if_true, unPs_map]
end
end Go.VS

namespace Go.VS
open Go Go.Proofs Go.Sort Go.Shelf
/-- What the program's comparison of pairs says. -/
def pairCmp (x y : Int × Int) : Int := F0.orders_front_1 ⟨x.1, x.2⟩ ⟨y.1, y.2⟩
noncomputable def cfg : Cfg := { P := Try.prog, fn := zK.find, ty := tyTab.find, keep := find2 keepTab, inl := fun K => memN K [37, 38, 39, 70, 80, 86, 97, 100, 101, 102, 103, 104, 105, 107, 108, 112, 113, 115, 116, 117, 118, 119, 120, 121, 122, 123, 124, 125, 126, 127, 128, 129, 130], ext := fun K => bif eqb K 12 then some (fun args => match args with | [] => some (B true) | _ => none) else none, xinl := fun K => bif eqb K 97 then some (sortX 98 pairCmp) else none, glob := fun _ => none, eqok := fun t => (eqTab.find t).isSome }
theorem cfg_fn : cfg.fn = zK.find := rfl
theorem cfg_ty : cfg.ty = tyTab.find := rfl
theorem cfg_eqok (t : TypeId) : cfg.eqok t = (eqTab.find t).isSome := rfl
theorem cfgOK : CfgOK cfg where
  ty := fun _ _ h => tyTab_ok.find h
  fn := fun _ _ h => fnTab_ok.find h
  enter := fun _ _ h => enTab_ok.find h
  mixed := by kernel_rfl
  eqok := fun t h => by
    have h1 : (eqTab.find t).isSome = true := h
    cases hf : eqTab.find t with
    | none => rw [hf] at h1; cases h1
    | some u =>
      have := eqTab_ok.find hf
      unfold eqB at this
      simp only [Bool.and_eq_true, Bool.not_eq_true'] at this
      refine ⟨this.1.1, this.1.2, fun fs hfs f hm => ?_⟩
      have h2 := this.2
      have hfs' : Try.prog.underlying t = some (.struct fs) := hfs
      rw [hfs'] at h2
      simp only [List.all_eq_true, bne_iff_ne] at h2
      exact h2 f hm
theorem globOK {M : Mem} : yg cfg M := fun g d h => by cases h
theorem ck {S : Sm} {objs : List (Nat × Ob)} {nxt K : Nat} {args : List D} {fn : Func} (h : zK.find K = some fn) (hi : memN K [37, 38, 39, 70, 80, 86, 97, 100, 101, 102, 103, 104, 105, 107, 108, 112, 113, 115, 116, 117, 118, 119, 120, 121, 122, 123, 124, 125, 126, 127, 128, 129, 130] = false) : zm cfg S objs nxt K args = zd S objs nxt K args := by
  simp only [zm, cfg_fn, h]
  rw [show cfg.inl K = memN K [37, 38, 39, 70, 80, 86, 97, 100, 101, 102, 103, 104, 105, 107, 108, 112, 113, 115, 116, 117, 118, 119, 120, 121, 122, 123, 124, 125, 126, 127, 128, 129, 130] from rfl, hi]
  rfl
theorem lck2 {S : Sm} {objs : List (Nat × Ob)} {nxt : Nat} {args : List D} : zm cfg S objs nxt 2 args = zd S objs nxt 2 args := ck cfn2 rfl
theorem lck3 {S : Sm} {objs : List (Nat × Ob)} {nxt : Nat} {args : List D} : zm cfg S objs nxt 3 args = zd S objs nxt 3 args := ck cfn3 rfl
theorem lck4 {S : Sm} {objs : List (Nat × Ob)} {nxt : Nat} {args : List D} : zm cfg S objs nxt 4 args = zd S objs nxt 4 args := ck cfn4 rfl
theorem lck5 {S : Sm} {objs : List (Nat × Ob)} {nxt : Nat} {args : List D} : zm cfg S objs nxt 5 args = zd S objs nxt 5 args := ck cfn5 rfl
theorem lck6 {S : Sm} {objs : List (Nat × Ob)} {nxt : Nat} {args : List D} : zm cfg S objs nxt 6 args = zd S objs nxt 6 args := ck cfn6 rfl
theorem lck7 {S : Sm} {objs : List (Nat × Ob)} {nxt : Nat} {args : List D} : zm cfg S objs nxt 7 args = zd S objs nxt 7 args := ck cfn7 rfl
theorem lck8 {S : Sm} {objs : List (Nat × Ob)} {nxt : Nat} {args : List D} : zm cfg S objs nxt 8 args = zd S objs nxt 8 args := ck cfn8 rfl
theorem lck9 {S : Sm} {objs : List (Nat × Ob)} {nxt : Nat} {args : List D} : zm cfg S objs nxt 9 args = zd S objs nxt 9 args := ck cfn9 rfl
theorem lck10 {S : Sm} {objs : List (Nat × Ob)} {nxt : Nat} {args : List D} : zm cfg S objs nxt 10 args = zd S objs nxt 10 args := ck cfn10 rfl
theorem lck11 {S : Sm} {objs : List (Nat × Ob)} {nxt : Nat} {args : List D} : zm cfg S objs nxt 11 args = zd S objs nxt 11 args := ck cfn11 rfl
theorem lck12 {S : Sm} {objs : List (Nat × Ob)} {nxt : Nat} {args : List D} : zm cfg S objs nxt 12 args = zd S objs nxt 12 args := ck cfn12 rfl
theorem lck13 {S : Sm} {objs : List (Nat × Ob)} {nxt : Nat} {args : List D} : zm cfg S objs nxt 13 args = zd S objs nxt 13 args := ck cfn13 rfl
theorem lck14 {S : Sm} {objs : List (Nat × Ob)} {nxt : Nat} {args : List D} : zm cfg S objs nxt 14 args = zd S objs nxt 14 args := ck cfn14 rfl
theorem lck15 {S : Sm} {objs : List (Nat × Ob)} {nxt : Nat} {args : List D} : zm cfg S objs nxt 15 args = zd S objs nxt 15 args := ck cfn15 rfl
theorem lck16 {S : Sm} {objs : List (Nat × Ob)} {nxt : Nat} {args : List D} : zm cfg S objs nxt 16 args = zd S objs nxt 16 args := ck cfn16 rfl
theorem lck17 {S : Sm} {objs : List (Nat × Ob)} {nxt : Nat} {args : List D} : zm cfg S objs nxt 17 args = zd S objs nxt 17 args := ck cfn17 rfl
theorem lck18 {S : Sm} {objs : List (Nat × Ob)} {nxt : Nat} {args : List D} : zm cfg S objs nxt 18 args = zd S objs nxt 18 args := ck cfn18 rfl
theorem lck19 {S : Sm} {objs : List (Nat × Ob)} {nxt : Nat} {args : List D} : zm cfg S objs nxt 19 args = zd S objs nxt 19 args := ck cfn19 rfl
theorem lck20 {S : Sm} {objs : List (Nat × Ob)} {nxt : Nat} {args : List D} : zm cfg S objs nxt 20 args = zd S objs nxt 20 args := ck cfn20 rfl
theorem lck21 {S : Sm} {objs : List (Nat × Ob)} {nxt : Nat} {args : List D} : zm cfg S objs nxt 21 args = zd S objs nxt 21 args := ck cfn21 rfl
theorem lck22 {S : Sm} {objs : List (Nat × Ob)} {nxt : Nat} {args : List D} : zm cfg S objs nxt 22 args = zd S objs nxt 22 args := ck cfn22 rfl
theorem lck23 {S : Sm} {objs : List (Nat × Ob)} {nxt : Nat} {args : List D} : zm cfg S objs nxt 23 args = zd S objs nxt 23 args := ck cfn23 rfl
theorem lck24 {S : Sm} {objs : List (Nat × Ob)} {nxt : Nat} {args : List D} : zm cfg S objs nxt 24 args = zd S objs nxt 24 args := ck cfn24 rfl
theorem lck25 {S : Sm} {objs : List (Nat × Ob)} {nxt : Nat} {args : List D} : zm cfg S objs nxt 25 args = zd S objs nxt 25 args := ck cfn25 rfl
theorem lck26 {S : Sm} {objs : List (Nat × Ob)} {nxt : Nat} {args : List D} : zm cfg S objs nxt 26 args = zd S objs nxt 26 args := ck cfn26 rfl
theorem lck27 {S : Sm} {objs : List (Nat × Ob)} {nxt : Nat} {args : List D} : zm cfg S objs nxt 27 args = zd S objs nxt 27 args := ck cfn27 rfl
theorem lck28 {S : Sm} {objs : List (Nat × Ob)} {nxt : Nat} {args : List D} : zm cfg S objs nxt 28 args = zd S objs nxt 28 args := ck cfn28 rfl
theorem lck29 {S : Sm} {objs : List (Nat × Ob)} {nxt : Nat} {args : List D} : zm cfg S objs nxt 29 args = zd S objs nxt 29 args := ck cfn29 rfl
theorem lck30 {S : Sm} {objs : List (Nat × Ob)} {nxt : Nat} {args : List D} : zm cfg S objs nxt 30 args = zd S objs nxt 30 args := ck cfn30 rfl
theorem lck31 {S : Sm} {objs : List (Nat × Ob)} {nxt : Nat} {args : List D} : zm cfg S objs nxt 31 args = zd S objs nxt 31 args := ck cfn31 rfl
theorem lck32 {S : Sm} {objs : List (Nat × Ob)} {nxt : Nat} {args : List D} : zm cfg S objs nxt 32 args = zd S objs nxt 32 args := ck cfn32 rfl
theorem lck33 {S : Sm} {objs : List (Nat × Ob)} {nxt : Nat} {args : List D} : zm cfg S objs nxt 33 args = zd S objs nxt 33 args := ck cfn33 rfl
theorem lck34 {S : Sm} {objs : List (Nat × Ob)} {nxt : Nat} {args : List D} : zm cfg S objs nxt 34 args = zd S objs nxt 34 args := ck cfn34 rfl
theorem lck35 {S : Sm} {objs : List (Nat × Ob)} {nxt : Nat} {args : List D} : zm cfg S objs nxt 35 args = zd S objs nxt 35 args := ck cfn35 rfl
theorem lck36 {S : Sm} {objs : List (Nat × Ob)} {nxt : Nat} {args : List D} : zm cfg S objs nxt 36 args = zd S objs nxt 36 args := ck cfn36 rfl
theorem lck40 {S : Sm} {objs : List (Nat × Ob)} {nxt : Nat} {args : List D} : zm cfg S objs nxt 40 args = zd S objs nxt 40 args := ck cfn40 rfl
theorem lck41 {S : Sm} {objs : List (Nat × Ob)} {nxt : Nat} {args : List D} : zm cfg S objs nxt 41 args = zd S objs nxt 41 args := ck cfn41 rfl
theorem lck42 {S : Sm} {objs : List (Nat × Ob)} {nxt : Nat} {args : List D} : zm cfg S objs nxt 42 args = zd S objs nxt 42 args := ck cfn42 rfl
theorem lck43 {S : Sm} {objs : List (Nat × Ob)} {nxt : Nat} {args : List D} : zm cfg S objs nxt 43 args = zd S objs nxt 43 args := ck cfn43 rfl
theorem lck44 {S : Sm} {objs : List (Nat × Ob)} {nxt : Nat} {args : List D} : zm cfg S objs nxt 44 args = zd S objs nxt 44 args := ck cfn44 rfl
theorem lck45 {S : Sm} {objs : List (Nat × Ob)} {nxt : Nat} {args : List D} : zm cfg S objs nxt 45 args = zd S objs nxt 45 args := ck cfn45 rfl
theorem lck46 {S : Sm} {objs : List (Nat × Ob)} {nxt : Nat} {args : List D} : zm cfg S objs nxt 46 args = zd S objs nxt 46 args := ck cfn46 rfl
theorem lck47 {S : Sm} {objs : List (Nat × Ob)} {nxt : Nat} {args : List D} : zm cfg S objs nxt 47 args = zd S objs nxt 47 args := ck cfn47 rfl
theorem lck48 {S : Sm} {objs : List (Nat × Ob)} {nxt : Nat} {args : List D} : zm cfg S objs nxt 48 args = zd S objs nxt 48 args := ck cfn48 rfl
theorem lck49 {S : Sm} {objs : List (Nat × Ob)} {nxt : Nat} {args : List D} : zm cfg S objs nxt 49 args = zd S objs nxt 49 args := ck cfn49 rfl
theorem lck50 {S : Sm} {objs : List (Nat × Ob)} {nxt : Nat} {args : List D} : zm cfg S objs nxt 50 args = zd S objs nxt 50 args := ck cfn50 rfl
theorem lck51 {S : Sm} {objs : List (Nat × Ob)} {nxt : Nat} {args : List D} : zm cfg S objs nxt 51 args = zd S objs nxt 51 args := ck cfn51 rfl
theorem lck52 {S : Sm} {objs : List (Nat × Ob)} {nxt : Nat} {args : List D} : zm cfg S objs nxt 52 args = zd S objs nxt 52 args := ck cfn52 rfl
theorem lck53 {S : Sm} {objs : List (Nat × Ob)} {nxt : Nat} {args : List D} : zm cfg S objs nxt 53 args = zd S objs nxt 53 args := ck cfn53 rfl
theorem lck54 {S : Sm} {objs : List (Nat × Ob)} {nxt : Nat} {args : List D} : zm cfg S objs nxt 54 args = zd S objs nxt 54 args := ck cfn54 rfl
theorem lck55 {S : Sm} {objs : List (Nat × Ob)} {nxt : Nat} {args : List D} : zm cfg S objs nxt 55 args = zd S objs nxt 55 args := ck cfn55 rfl
theorem lck56 {S : Sm} {objs : List (Nat × Ob)} {nxt : Nat} {args : List D} : zm cfg S objs nxt 56 args = zd S objs nxt 56 args := ck cfn56 rfl
theorem lck57 {S : Sm} {objs : List (Nat × Ob)} {nxt : Nat} {args : List D} : zm cfg S objs nxt 57 args = zd S objs nxt 57 args := ck cfn57 rfl
theorem lck58 {S : Sm} {objs : List (Nat × Ob)} {nxt : Nat} {args : List D} : zm cfg S objs nxt 58 args = zd S objs nxt 58 args := ck cfn58 rfl
theorem lck59 {S : Sm} {objs : List (Nat × Ob)} {nxt : Nat} {args : List D} : zm cfg S objs nxt 59 args = zd S objs nxt 59 args := ck cfn59 rfl
theorem lck60 {S : Sm} {objs : List (Nat × Ob)} {nxt : Nat} {args : List D} : zm cfg S objs nxt 60 args = zd S objs nxt 60 args := ck cfn60 rfl
theorem lck61 {S : Sm} {objs : List (Nat × Ob)} {nxt : Nat} {args : List D} : zm cfg S objs nxt 61 args = zd S objs nxt 61 args := ck cfn61 rfl
theorem lck62 {S : Sm} {objs : List (Nat × Ob)} {nxt : Nat} {args : List D} : zm cfg S objs nxt 62 args = zd S objs nxt 62 args := ck cfn62 rfl
theorem lck63 {S : Sm} {objs : List (Nat × Ob)} {nxt : Nat} {args : List D} : zm cfg S objs nxt 63 args = zd S objs nxt 63 args := ck cfn63 rfl
theorem lck64 {S : Sm} {objs : List (Nat × Ob)} {nxt : Nat} {args : List D} : zm cfg S objs nxt 64 args = zd S objs nxt 64 args := ck cfn64 rfl
theorem lck65 {S : Sm} {objs : List (Nat × Ob)} {nxt : Nat} {args : List D} : zm cfg S objs nxt 65 args = zd S objs nxt 65 args := ck cfn65 rfl
theorem lck66 {S : Sm} {objs : List (Nat × Ob)} {nxt : Nat} {args : List D} : zm cfg S objs nxt 66 args = zd S objs nxt 66 args := ck cfn66 rfl
theorem lck67 {S : Sm} {objs : List (Nat × Ob)} {nxt : Nat} {args : List D} : zm cfg S objs nxt 67 args = zd S objs nxt 67 args := ck cfn67 rfl
theorem lck68 {S : Sm} {objs : List (Nat × Ob)} {nxt : Nat} {args : List D} : zm cfg S objs nxt 68 args = zd S objs nxt 68 args := ck cfn68 rfl
theorem lck69 {S : Sm} {objs : List (Nat × Ob)} {nxt : Nat} {args : List D} : zm cfg S objs nxt 69 args = zd S objs nxt 69 args := ck cfn69 rfl
theorem lck71 {S : Sm} {objs : List (Nat × Ob)} {nxt : Nat} {args : List D} : zm cfg S objs nxt 71 args = zd S objs nxt 71 args := ck cfn71 rfl
theorem lck72 {S : Sm} {objs : List (Nat × Ob)} {nxt : Nat} {args : List D} : zm cfg S objs nxt 72 args = zd S objs nxt 72 args := ck cfn72 rfl
theorem lck73 {S : Sm} {objs : List (Nat × Ob)} {nxt : Nat} {args : List D} : zm cfg S objs nxt 73 args = zd S objs nxt 73 args := ck cfn73 rfl
theorem lck74 {S : Sm} {objs : List (Nat × Ob)} {nxt : Nat} {args : List D} : zm cfg S objs nxt 74 args = zd S objs nxt 74 args := ck cfn74 rfl
theorem lck75 {S : Sm} {objs : List (Nat × Ob)} {nxt : Nat} {args : List D} : zm cfg S objs nxt 75 args = zd S objs nxt 75 args := ck cfn75 rfl
theorem lck76 {S : Sm} {objs : List (Nat × Ob)} {nxt : Nat} {args : List D} : zm cfg S objs nxt 76 args = zd S objs nxt 76 args := ck cfn76 rfl
theorem lck77 {S : Sm} {objs : List (Nat × Ob)} {nxt : Nat} {args : List D} : zm cfg S objs nxt 77 args = zd S objs nxt 77 args := ck cfn77 rfl
theorem lck78 {S : Sm} {objs : List (Nat × Ob)} {nxt : Nat} {args : List D} : zm cfg S objs nxt 78 args = zd S objs nxt 78 args := ck cfn78 rfl
theorem lck79 {S : Sm} {objs : List (Nat × Ob)} {nxt : Nat} {args : List D} : zm cfg S objs nxt 79 args = zd S objs nxt 79 args := ck cfn79 rfl
theorem lck81 {S : Sm} {objs : List (Nat × Ob)} {nxt : Nat} {args : List D} : zm cfg S objs nxt 81 args = zd S objs nxt 81 args := ck cfn81 rfl
theorem lck82 {S : Sm} {objs : List (Nat × Ob)} {nxt : Nat} {args : List D} : zm cfg S objs nxt 82 args = zd S objs nxt 82 args := ck cfn82 rfl
theorem lck83 {S : Sm} {objs : List (Nat × Ob)} {nxt : Nat} {args : List D} : zm cfg S objs nxt 83 args = zd S objs nxt 83 args := ck cfn83 rfl
theorem lck84 {S : Sm} {objs : List (Nat × Ob)} {nxt : Nat} {args : List D} : zm cfg S objs nxt 84 args = zd S objs nxt 84 args := ck cfn84 rfl
theorem lck85 {S : Sm} {objs : List (Nat × Ob)} {nxt : Nat} {args : List D} : zm cfg S objs nxt 85 args = zd S objs nxt 85 args := ck cfn85 rfl
theorem lck87 {S : Sm} {objs : List (Nat × Ob)} {nxt : Nat} {args : List D} : zm cfg S objs nxt 87 args = zd S objs nxt 87 args := ck cfn87 rfl
theorem lck88 {S : Sm} {objs : List (Nat × Ob)} {nxt : Nat} {args : List D} : zm cfg S objs nxt 88 args = zd S objs nxt 88 args := ck cfn88 rfl
theorem lck89 {S : Sm} {objs : List (Nat × Ob)} {nxt : Nat} {args : List D} : zm cfg S objs nxt 89 args = zd S objs nxt 89 args := ck cfn89 rfl
theorem lck90 {S : Sm} {objs : List (Nat × Ob)} {nxt : Nat} {args : List D} : zm cfg S objs nxt 90 args = zd S objs nxt 90 args := ck cfn90 rfl
theorem lck91 {S : Sm} {objs : List (Nat × Ob)} {nxt : Nat} {args : List D} : zm cfg S objs nxt 91 args = zd S objs nxt 91 args := ck cfn91 rfl
theorem lck92 {S : Sm} {objs : List (Nat × Ob)} {nxt : Nat} {args : List D} : zm cfg S objs nxt 92 args = zd S objs nxt 92 args := ck cfn92 rfl
theorem lck93 {S : Sm} {objs : List (Nat × Ob)} {nxt : Nat} {args : List D} : zm cfg S objs nxt 93 args = zd S objs nxt 93 args := ck cfn93 rfl
theorem lck94 {S : Sm} {objs : List (Nat × Ob)} {nxt : Nat} {args : List D} : zm cfg S objs nxt 94 args = zd S objs nxt 94 args := ck cfn94 rfl
theorem lck95 {S : Sm} {objs : List (Nat × Ob)} {nxt : Nat} {args : List D} : zm cfg S objs nxt 95 args = zd S objs nxt 95 args := ck cfn95 rfl
theorem lck96 {S : Sm} {objs : List (Nat × Ob)} {nxt : Nat} {args : List D} : zm cfg S objs nxt 96 args = zd S objs nxt 96 args := ck cfn96 rfl
theorem lck98 {S : Sm} {objs : List (Nat × Ob)} {nxt : Nat} {args : List D} : zm cfg S objs nxt 98 args = zd S objs nxt 98 args := ck cfn98 rfl
theorem lck99 {S : Sm} {objs : List (Nat × Ob)} {nxt : Nat} {args : List D} : zm cfg S objs nxt 99 args = zd S objs nxt 99 args := ck cfn99 rfl
theorem lck106 {S : Sm} {objs : List (Nat × Ob)} {nxt : Nat} {args : List D} : zm cfg S objs nxt 106 args = zd S objs nxt 106 args := ck cfn106 rfl
theorem lck109 {S : Sm} {objs : List (Nat × Ob)} {nxt : Nat} {args : List D} : zm cfg S objs nxt 109 args = zd S objs nxt 109 args := ck cfn109 rfl
theorem lck110 {S : Sm} {objs : List (Nat × Ob)} {nxt : Nat} {args : List D} : zm cfg S objs nxt 110 args = zd S objs nxt 110 args := ck cfn110 rfl
theorem lck111 {S : Sm} {objs : List (Nat × Ob)} {nxt : Nat} {args : List D} : zm cfg S objs nxt 111 args = zd S objs nxt 111 args := ck cfn111 rfl
theorem lck114 {S : Sm} {objs : List (Nat × Ob)} {nxt : Nat} {args : List D} : zm cfg S objs nxt 114 args = zd S objs nxt 114 args := ck cfn114 rfl
set_option linter.defProp false
def cks := (And.intro (And.intro (And.intro (And.intro (And.intro (And.intro @lck2 (And.intro @lck3 @lck4)) (And.intro @lck5 (And.intro @lck6 @lck7))) (And.intro (And.intro @lck8 (And.intro @lck9 @lck10)) (And.intro @lck11 (And.intro @lck12 @lck13)))) (And.intro (And.intro (And.intro @lck14 (And.intro @lck15 @lck16)) (And.intro @lck17 (And.intro @lck18 @lck19))) (And.intro (And.intro @lck20 (And.intro @lck21 @lck22)) (And.intro @lck23 (And.intro @lck24 @lck25))))) (And.intro (And.intro (And.intro (And.intro @lck26 (And.intro @lck27 @lck28)) (And.intro @lck29 (And.intro @lck30 @lck31))) (And.intro (And.intro @lck32 (And.intro @lck33 @lck34)) (And.intro @lck35 (And.intro @lck36 @lck40)))) (And.intro (And.intro (And.intro @lck41 (And.intro @lck42 @lck43)) (And.intro @lck44 (And.intro @lck45 @lck46))) (And.intro (And.intro @lck47 (And.intro @lck48 @lck49)) (And.intro @lck50 (And.intro @lck51 @lck52)))))) (And.intro (And.intro (And.intro (And.intro (And.intro @lck53 (And.intro @lck54 @lck55)) (And.intro @lck56 (And.intro @lck57 @lck58))) (And.intro (And.intro @lck59 (And.intro @lck60 @lck61)) (And.intro @lck62 (And.intro @lck63 @lck64)))) (And.intro (And.intro (And.intro @lck65 (And.intro @lck66 @lck67)) (And.intro @lck68 (And.intro @lck69 @lck71))) (And.intro (And.intro @lck72 (And.intro @lck73 @lck74)) (And.intro @lck75 (And.intro @lck76 @lck77))))) (And.intro (And.intro (And.intro (And.intro @lck78 (And.intro @lck79 @lck81)) (And.intro @lck82 (And.intro @lck83 @lck84))) (And.intro (And.intro @lck85 (And.intro @lck87 @lck88)) (And.intro @lck89 (And.intro @lck90 @lck91)))) (And.intro (And.intro (And.intro @lck92 (And.intro @lck93 @lck94)) (And.intro @lck95 (And.intro @lck96 @lck98))) (And.intro (And.intro @lck99 (And.intro @lck106 @lck109)) (And.intro @lck110 (And.intro @lck111 @lck114)))))))
attribute [go_sem] tys cks cfg_ty cfg_eqok zs_false
theorem pure_up {K : FuncId} {args : List D} {d : D} (h : (lim F0.cfg).pure K args = some d) : PureOK cfg K args d := fun M w vs h1 _ h3 =>
  lim_sound F0.cfgOK F0.extOK h M w vs h1 F0.globOK h3
theorem or2_neg {a b : Int} : F0.or2 a b < 0 ↔ a < 0 ∨ a = 0 ∧ b < 0 := by
  unfold F0.or2
  cases h1 : (a != 0) with
  | true => have := bne_true h1; simp only [cond_true]; omega
  | false =>
    have := bne_false h1
    cases h2 : (b != 0) with
    | true => simp only [cond_true, cond_false]; omega
    | false => have := bne_false h2; simp only [cond_false]; omega
theorem cmp_val (a b : Int) : F0.cmp_Compare a b = if a < b then -1 else if a > b then 1 else 0 := by
  unfold F0.cmp_Compare
  have e : ∀ x : Int, F0.cmp_isNaN x = false := fun x => by simp [F0.cmp_isNaN]
  simp only [e, Bool.false_eq_true, if_false, Bool.cond_eq_ite, decide_eq_true_eq]
theorem pairCmp_neg {x y : Int × Int} : pairCmp x y < 0 ↔ x.1 < y.1 ∨ x.1 = y.1 ∧ y.2 < x.2 := by
  unfold pairCmp F0.orders_front_1
  rw [or2_neg, cmp_val, cmp_val]
  dsimp only
  repeat' split
  all_goals omega
theorem pairCmp_swo : SWO (ltOf pairCmp) where
  irrefl := fun x => decide_eq_false fun h => by have := pairCmp_neg.1 h; omega
  trans := fun x y z h1 h2 => decide_eq_true (pairCmp_neg.2 (by
    have h1 := pairCmp_neg.1 (of_decide_eq_true h1)
    have h2 := pairCmp_neg.1 (of_decide_eq_true h2)
    omega))
  ntrans := fun x y z h1 h2 => decide_eq_false fun h => by
    have h := pairCmp_neg.1 h
    have h1 := mt pairCmp_neg.2 (of_decide_eq_false h1)
    have h2 := mt pairCmp_neg.2 (of_decide_eq_false h2)
    omega
theorem extOK : ExtOK cfg where
  pure := fun K g args d h hg => by
    have h' : (bif eqb K 12 then some (fun args => match args with | [] => some (B true) | _ => none) else none : Option (List D → Option D)) = some g := h
    cases hk : eqb K 12 with
    | false => rw [hk] at h'; cases h'
    | true =>
      rw [hk] at h'
      have := eqb_iff.1 hk
      subst this
      cases h'
      cases args with
      | nil => cases hg; exact pure_up F0.sane_ok
      | cons a r => cases hg
  inl := fun K g args objs nxt d objs' nxt' h hg => by
    have h' : (bif eqb K 97 then some (sortX 98 pairCmp) else none : Option (List D → List (Nat × Ob) → Nat → Option (D × List (Nat × Ob) × Nat))) = some g := h
    cases hk : eqb K 97 with
    | false => rw [hk] at h'; cases h'
    | true =>
      rw [hk] at h'
      have := eqb_iff.1 hk
      subst this
      cases h'
      exact sortX_ok (C := cfg) Try.sortP cfgOK Try.isAgg47 Try.sizeOf47 pairCmp_swo (g := 98) (fg := Try.f98) cfn98 (fun x y => pure_up (F0.T_orders_front_1 ⟨x.1, x.2⟩ ⟨y.1, y.2⟩)) hg
theorem sane_ok : (lim cfg).pure 12 [] = some (B true) := pure_of rfl
end Go.VS

namespace Go.VS
open Go Go.Proofs
set_option maxHeartbeats 0
set_option linter.unusedSimpArgs false
set_option linter.unusedVariables false
structure S_Span where
  lo : Int
  hi : Int
instance : Inhabited S_Span := ⟨⟨0, 0⟩⟩
def S_Span.D (x : S_Span) : VS.D := .agg [I x.lo, I x.hi]
structure S_Item where
  now : S_Span
  cost : Int
  error : Int
instance : Inhabited S_Item := ⟨⟨default, 0, 0⟩⟩
def S_Item.D (x : S_Item) : VS.D := .agg [I x.now.lo, I x.now.hi, I x.cost, I x.error]
structure S_Estate where
  items : GS S_Item
  whole : S_Span
instance : Inhabited S_Estate := ⟨⟨GS.nil, default⟩⟩
def S_Estate.D (x : S_Estate) : VS.D := .agg [.sl x.items.nl (x.items.l.map S_Item.D) (zsl x.items.nl 4) none, I x.whole.lo, I x.whole.hi]
def zO (n : Int) (lo : Int) (hi : Int) : Bool :=
  bif decide (n ≥ lo) then
    bif decide (n ≤ hi) then
      true
    else
      false
  else
    false

theorem T_orders_within (n : Int) (lo : Int) (hi : Int) : (lim cfg).pure 75 [I n, I lo, I hi] = some (B (zO n lo hi)) := by
  unfold zO
  cases h1 : decide (n ≥ lo) with
  | true =>
    have g1 := of_decide_eq_true h1
    cases h2 : decide (n ≤ hi) with
    | true =>
      have g2 := of_decide_eq_true h2
      exact zk [.dec true, .dec true] (And.intro h2 (And.intro h1 trivial)) (by kernel_rfl)
    | false =>
      have g2 := of_decide_eq_false h2
      exact zk [.dec true, .dec false] (And.intro h2 (And.intro h1 trivial)) (by kernel_rfl)
  | false =>
    have g1 := of_decide_eq_false h1
    exact zk [.dec false] (And.intro h1 trivial) (by kernel_rfl)

theorem within_eq (n lo hi : Int) : zO n lo hi = (decide (lo ≤ n) && decide (n ≤ hi)) := by
  unfold zO
  cases h1 : decide (n ≥ lo) <;> cases h2 : decide (n ≤ hi) <;> simp_all
theorem within_t {n lo hi : Int} (h : zO n lo hi = true) : lo ≤ n ∧ n ≤ hi := by simpa [within_eq] using h
theorem within_f {n lo hi : Int} (h : zO n lo hi = false) : ¬ (lo ≤ n ∧ n ≤ hi) := by
  rw [within_eq] at h
  intro hh
  simp [hh.1, hh.2] at h

def orders_span (x : S_Span) (most : Int) : Bool :=
  bif decide (x.lo ≥ 0) then
    bif decide (x.lo ≤ x.hi) then
      bif decide (x.hi ≤ most) then
        true
      else
        false
    else
      false
  else
    false

theorem T_orders_span (x : S_Span) (most : Int) : (lim cfg).pure 85 [S_Span.D x, I most] = some (B (orders_span x most)) := by
  unfold orders_span
  cases h1 : decide (x.lo ≥ 0) with
  | true =>
    have g1 := of_decide_eq_true h1
    cases h2 : decide (x.lo ≤ x.hi) with
    | true =>
      have g2 := of_decide_eq_true h2
      cases h3 : decide (x.hi ≤ most) with
      | true =>
        have g3 := of_decide_eq_true h3
        exact zk [.dec true, .dec true, .dec true] (And.intro h3 (And.intro h2 (And.intro h1 trivial))) (by kernel_rfl)
      | false =>
        have g3 := of_decide_eq_false h3
        exact zk [.dec true, .dec true, .dec false] (And.intro h3 (And.intro h2 (And.intro h1 trivial))) (by kernel_rfl)
    | false =>
      have g2 := of_decide_eq_false h2
      exact zk [.dec true, .dec false] (And.intro h2 (And.intro h1 trivial)) (by kernel_rfl)
  | false =>
    have g1 := of_decide_eq_false h1
    exact zk [.dec false] (And.intro h1 trivial) (by kernel_rfl)

def y6 (x : S_Span) (y : S_Span) : S_Span × Bool :=
  bif decide ((ye x.lo y.lo) ≤ (imin x.hi y.hi)) then
    ((⟨ye x.lo y.lo, imin x.hi y.hi⟩ : S_Span), true)
  else
    ((⟨ye x.lo y.lo, imin x.hi y.hi⟩ : S_Span), false)

theorem T_orders_common (x : S_Span) (y : S_Span) : (lim cfg).pure 76 [S_Span.D x, S_Span.D y] = some (.tup [S_Span.D ((y6 x y).1), B ((y6 x y).2)]) := by
  unfold y6
  cases h1 : decide ((ye x.lo y.lo) ≤ (imin x.hi y.hi)) with
  | true =>
    have g1 := of_decide_eq_true h1
    exact zk [.dec true] (And.intro h1 trivial) (by kernel_rfl)
  | false =>
    have g1 := of_decide_eq_false h1
    exact zk [.dec false] (And.intro h1 trivial) (by kernel_rfl)

def zg (i : S_Item) : Int :=
  ye 0 (w64 ((w64 (i.now.hi - i.now.lo)) - (w64 (2 * i.error))))

theorem T_orders_gain (i : S_Item) : (lim cfg).pure 87 [S_Item.D i] = some (I (zg i)) := by
  unfold zg
  exact zk [] (trivial) (by kernel_rfl)

noncomputable def lp62_2 : Code := subC [1, 0, 1, 0, 0] (bodyC Try.f62)

inductive LR_orders_all_2 where
  | x0 (v2_0 : Int) (v2_1 : Int)
instance : Inhabited LR_orders_all_2 := ⟨.x0 default default⟩
def orders_all_2 : List S_Item → Int → Int → LR_orders_all_2
  | [], v2_0, v2_1 => .x0 v2_0 v2_1
  | x2 :: rest2, v2_0, v2_1 =>
    orders_all_2 rest2 (w64 (v2_0 + x2.now.lo)) (w64 (v2_1 + x2.now.hi))
def lr_orders_all_2 (e : S_Estate) : LR_orders_all_2 → Exit × St
  | .x0 v2_0 v2_1 => ((.exit 0), ⟨28, [(9, B false), (2, .lref 0 0 2 0), (6, .sl e.items.nl (e.items.l.map S_Item.D) (zsl e.items.nl 4) none), (7, I ((e.items.l.length : Nat) : Int)), (8, I ((e.items.l.length : Nat) : Int))], [(0, ⟨[.agg [I v2_0, I v2_1]], 2, false⟩)], 1, 0⟩)
theorem lp_orders_all_2 (e : S_Estate) : ∀ (rest2 : List S_Item) (i2 : Nat) (v2_0 : Int) (v2_1 : Int) (hd2 : e.items.l.drop i2 = rest2) (hi2 : i2 ≤ e.items.l.length) (hL2 : e.items.l.length ≤ 9223372036854775807), (lim cfg).loop 62 lp62_2 ⟨28, [(2, .lref 0 0 2 0), (6, .sl e.items.nl (e.items.l.map S_Item.D) (zsl e.items.nl 4) none), (7, I ((e.items.l.length : Nat) : Int)), (8, I ((i2 : Nat) : Int))], [(0, ⟨[.agg [I v2_0, I v2_1]], 2, false⟩)], 1, 0⟩ = some (lr_orders_all_2 e (orders_all_2 rest2 v2_0 v2_1)) := by
  intro rest2
  induction rest2 with
  | nil =>
    intro i2 v2_0 v2_1 hd2 hi2 hL2
    unfold orders_all_2
    obtain rfl : i2 = e.items.l.length := nil_eq hd2 hi2
    exact zS [.dec false] (And.intro (lt_no hd2) trivial) (by kernel_rfl)
  | cons x2 rest2 ih =>
    intro i2 v2_0 v2_1 hd2 hi2 hL2
    have hlt2 := zt hd2
    unfold orders_all_2
    exact po_turn [.dec true, .el (.agg [I x2.now.lo, I x2.now.hi, I x2.cost, I x2.error]), .rw 26 (I ((i2 + 1 : Nat) : Int))] (And.intro (zX (i := i2) (by have := zt hd2; omega)) (And.intro (el_at (s := e.items) (f := S_Item.D) (k := 4) hd2) (And.intro (lt_at hd2) trivial))) (ih (i2 + 1) (w64 (v2_0 + x2.now.lo)) (w64 (v2_1 + x2.now.hi)) (zA hd2) (zt hd2) (by omega)) (by kernel_rfl)

def zQ (e : S_Estate) : S_Span :=
  match orders_all_2 e.items.l 0 0 with
  | .x0 v2_0 v2_1 =>
    (⟨v2_0, v2_1⟩ : S_Span)

def sd0 (e : S_Estate) (v2_0 : Int) (v2_1 : Int) : St := ⟨28, [(9, B false), (2, .lref 0 0 2 0), (6, .sl e.items.nl (e.items.l.map S_Item.D) (zsl e.items.nl 4) none), (7, I ((e.items.l.length : Nat) : Int)), (8, I ((e.items.l.length : Nat) : Int))], [(0, ⟨[.agg [I v2_0, I v2_1]], 2, false⟩)], 1, 0⟩

theorem T_orders_all (e : S_Estate) (hL_e_items : e.items.l.length ≤ 9223372036854775807) : (lim cfg).pure 62 [S_Estate.D e] = some (S_Span.D (zQ e)) := by
  unfold zQ
  cases h1 : orders_all_2 e.items.l 0 0 with
  | x0 v2_0 v2_1 =>
    try dsimp only
    exact zk [.rw 7 (I ((e.items.l.length : Nat) : Int)), .loop (.exit 0) (sd0 e v2_0 v2_1)] (And.intro (po_lr (q := lr_orders_all_2 e) (lp_orders_all_2 e e.items.l 0 0 0 (List.drop_zero) (Nat.zero_le _) (by omega)) h1) (And.intro (zu S_Item.D e.items) trivial)) (by kernel_rfl)

noncomputable def lp53_4 : Code := subC [1, 1, 0, 1, 0, 0] (bodyC Try.f53)

inductive LR_orders_Check_4 where
  | x0
  | x1 (i4 : Nat) (x4 : S_Item)
  | x2 (i4 : Nat) (x4 : S_Item)
  | x3 (i4 : Nat) (x4 : S_Item)
instance : Inhabited LR_orders_Check_4 := ⟨.x0⟩
def orders_Check_4 : List S_Item → Nat → LR_orders_Check_4
  | [], i4 => .x0
  | x4 :: rest4, i4 =>
    bif (orders_span x4.now 1073741824) then
      bif (zO x4.cost 0 10000) then
        bif (zO x4.error 0 1048576) then
          orders_Check_4 rest4 (i4 + 1)
        else
          .x1 i4 x4
      else
        .x2 i4 x4
    else
      .x3 i4 x4
def lr_orders_Check_4 (e : S_Estate) : LR_orders_Check_4 → Exit × St
  | .x0 => ((.exit 0), ⟨52, [(22, B false), (1, .lref 0 0 3 0), (19, .sl e.items.nl (e.items.l.map S_Item.D) (zsl e.items.nl 4) none), (20, I ((e.items.l.length : Nat) : Int)), (21, I ((e.items.l.length : Nat) : Int))], [(0, ⟨[.agg [.sl e.items.nl (e.items.l.map S_Item.D) (zsl e.items.nl 4) none, I e.whole.lo, I e.whole.hi]], 3, false⟩)], 1, 0⟩)
  | .x1 i4 x4 => (.ret, ⟨52, [(2, I 80), (40, B true), (39, B true), (38, B false), (37, I x4.error), (36, .lref 1 0 4 3), (35, B false), (34, B false), (33, B false), (32, B true), (31, I x4.cost), (30, .lref 1 0 4 2), (29, B false), (28, B false), (27, B true), (26, .agg [I x4.now.lo, I x4.now.hi]), (25, .lref 1 0 4 0), (4, .lref 1 0 4 0), (24, .agg [I x4.now.lo, I x4.now.hi, I x4.cost, I x4.error]), (23, .ptr (.agg [I x4.now.lo, I x4.now.hi, I x4.cost, I x4.error])), (22, B true), (1, .lref 0 0 3 0), (19, .sl e.items.nl (e.items.l.map S_Item.D) (zsl e.items.nl 4) none), (20, I ((e.items.l.length : Nat) : Int)), (21, I ((i4 : Nat) : Int))], [(0, ⟨[.agg [.sl e.items.nl (e.items.l.map S_Item.D) (zsl e.items.nl 4) none, I e.whole.lo, I e.whole.hi]], 3, false⟩), (1, ⟨[.agg [I x4.now.lo, I x4.now.hi, I x4.cost, I x4.error]], 4, false⟩)], 2, 0⟩)
  | .x2 i4 x4 => (.ret, ⟨52, [(2, I 80), (40, B true), (39, .tup []), (38, .tup []), (37, .tup []), (36, .tup []), (35, B true), (34, B true), (33, B true), (32, B false), (31, I x4.cost), (30, .lref 1 0 4 2), (29, B false), (28, B false), (27, B true), (26, .agg [I x4.now.lo, I x4.now.hi]), (25, .lref 1 0 4 0), (4, .lref 1 0 4 0), (24, .agg [I x4.now.lo, I x4.now.hi, I x4.cost, I x4.error]), (23, .ptr (.agg [I x4.now.lo, I x4.now.hi, I x4.cost, I x4.error])), (22, B true), (1, .lref 0 0 3 0), (19, .sl e.items.nl (e.items.l.map S_Item.D) (zsl e.items.nl 4) none), (20, I ((e.items.l.length : Nat) : Int)), (21, I ((i4 : Nat) : Int))], [(0, ⟨[.agg [.sl e.items.nl (e.items.l.map S_Item.D) (zsl e.items.nl 4) none, I e.whole.lo, I e.whole.hi]], 3, false⟩), (1, ⟨[.agg [I x4.now.lo, I x4.now.hi, I x4.cost, I x4.error]], 4, false⟩)], 2, 0⟩)
  | .x3 i4 x4 => (.ret, ⟨52, [(2, I 80), (40, B true), (39, .tup []), (38, .tup []), (37, .tup []), (36, .tup []), (35, B true), (34, B true), (33, .tup []), (32, .tup []), (31, .tup []), (30, .tup []), (29, B true), (28, B true), (27, B false), (26, .agg [I x4.now.lo, I x4.now.hi]), (25, .lref 1 0 4 0), (4, .lref 1 0 4 0), (24, .agg [I x4.now.lo, I x4.now.hi, I x4.cost, I x4.error]), (23, .ptr (.agg [I x4.now.lo, I x4.now.hi, I x4.cost, I x4.error])), (22, B true), (1, .lref 0 0 3 0), (19, .sl e.items.nl (e.items.l.map S_Item.D) (zsl e.items.nl 4) none), (20, I ((e.items.l.length : Nat) : Int)), (21, I ((i4 : Nat) : Int))], [(0, ⟨[.agg [.sl e.items.nl (e.items.l.map S_Item.D) (zsl e.items.nl 4) none, I e.whole.lo, I e.whole.hi]], 3, false⟩), (1, ⟨[.agg [I x4.now.lo, I x4.now.hi, I x4.cost, I x4.error]], 4, false⟩)], 2, 0⟩)
def orders_Check_4_l_o1 (x4 : S_Item) : List Ora := [.dec true, .el (.agg [I x4.now.lo, I x4.now.hi, I x4.cost, I x4.error]), .pure (B (orders_span x4.now 1073741824)), .dec true, .pure (B (zO x4.cost 0 10000))]
theorem lp_orders_Check_4 (e : S_Estate) : ∀ (rest4 : List S_Item) (i4 : Nat) (hd4 : e.items.l.drop i4 = rest4) (hi4 : i4 ≤ e.items.l.length) (hL4 : e.items.l.length ≤ 9223372036854775807), (lim cfg).loop 53 lp53_4 ⟨52, [(1, .lref 0 0 3 0), (19, .sl e.items.nl (e.items.l.map S_Item.D) (zsl e.items.nl 4) none), (20, I ((e.items.l.length : Nat) : Int)), (21, I ((i4 : Nat) : Int))], [(0, ⟨[.agg [.sl e.items.nl (e.items.l.map S_Item.D) (zsl e.items.nl 4) none, I e.whole.lo, I e.whole.hi]], 3, false⟩)], 1, 0⟩ = some (lr_orders_Check_4 e (orders_Check_4 rest4 i4)) := by
  intro rest4
  induction rest4 with
  | nil =>
    intro i4 hd4 hi4 hL4
    unfold orders_Check_4
    obtain rfl : i4 = e.items.l.length := nil_eq hd4 hi4
    exact zS [.dec false] (And.intro (lt_no hd4) trivial) (by kernel_rfl)
  | cons x4 rest4 ih =>
    intro i4 hd4 hi4 hL4
    have hlt4 := zt hd4
    unfold orders_Check_4
    have p1 := (el_at (s := e.items) (f := S_Item.D) (k := 4) hd4)
    cases h6 : (orders_span x4.now 1073741824) with
    | true =>
      cases h7 : (zO x4.cost 0 10000) with
      | true =>
        have g7 := within_t h7
        cases h8 : (zO x4.error 0 1048576) with
        | true =>
          have g8 := within_t h8
          exact po_turn ((orders_Check_4_l_o1 x4) ++ [.dec true, .pure (B (zO x4.error 0 1048576)), .dec true, .rw 41 (I ((i4 + 1 : Nat) : Int))]) (And.intro (zX (i := i4) (by have := zt hd4; omega)) (And.intro h8 (And.intro (T_orders_within x4.error 0 1048576) (And.intro h7 (And.intro (T_orders_within x4.cost 0 10000) (And.intro h6 (And.intro (T_orders_span x4.now 1073741824) (And.intro p1 (And.intro (lt_at hd4) trivial))))))))) (ih (i4 + 1) (zA hd4) (zt hd4) (by omega)) (by kernel_rfl)
        | false =>
          have g8 := within_f h8
          exact zS ((orders_Check_4_l_o1 x4) ++ [.dec true, .pure (B (zO x4.error 0 1048576)), .dec false]) (And.intro h8 (And.intro (T_orders_within x4.error 0 1048576) (And.intro h7 (And.intro (T_orders_within x4.cost 0 10000) (And.intro h6 (And.intro (T_orders_span x4.now 1073741824) (And.intro p1 (And.intro (lt_at hd4) trivial)))))))) (by kernel_rfl)
      | false =>
        have g7 := within_f h7
        exact zS ((orders_Check_4_l_o1 x4) ++ [.dec false]) (And.intro h7 (And.intro (T_orders_within x4.cost 0 10000) (And.intro h6 (And.intro (T_orders_span x4.now 1073741824) (And.intro p1 (And.intro (lt_at hd4) trivial)))))) (by kernel_rfl)
    | false =>
      exact zS [.dec true, .el (.agg [I x4.now.lo, I x4.now.hi, I x4.cost, I x4.error]), .pure (B (orders_span x4.now 1073741824)), .dec false] (And.intro h6 (And.intro (T_orders_span x4.now 1073741824) (And.intro p1 (And.intro (lt_at hd4) trivial)))) (by kernel_rfl)

def zy (e : S_Estate) : Int :=
  bif (zO ((e.items.l.length : Nat) : Int) 1 12) then
    bif (orders_span e.whole 17179869184) then
      match orders_Check_4 e.items.l 0 with
      | .x0 =>
        bif ((y6 (zQ e) e.whole).2) then
          0
        else
          80
      | .x1 i4 x4 =>
        80
      | .x2 i4 x4 =>
        80
      | .x3 i4 x4 =>
        80
    else
      80
  else
    80

def orders_Check_o1 (e : S_Estate) : List Ora := [.rw 9 (I ((e.items.l.length : Nat) : Int)), .pure (B (zO ((e.items.l.length : Nat) : Int) 1 12)), .dec true, .pure (B (orders_span e.whole 17179869184))]

def sd1 (e : S_Estate) : St := ⟨52, [(22, B false), (1, .lref 0 0 3 0), (19, .sl e.items.nl (e.items.l.map S_Item.D) (zsl e.items.nl 4) none), (20, I ((e.items.l.length : Nat) : Int)), (21, I ((e.items.l.length : Nat) : Int))], [(0, ⟨[.agg [.sl e.items.nl (e.items.l.map S_Item.D) (zsl e.items.nl 4) none, I e.whole.lo, I e.whole.hi]], 3, false⟩)], 1, 0⟩

def orders_Check_o2 (e : S_Estate) : List Ora := [.dec true, .rw 20 (I ((e.items.l.length : Nat) : Int)), .loop (.exit 0) (sd1 e), .pure (.agg [I ((zQ e).lo), I ((zQ e).hi)]), .pure (.tup [.agg [I (((y6 (zQ e) e.whole).1).lo), I (((y6 (zQ e) e.whole).1).hi)], B ((y6 (zQ e) e.whole).2)])]

def sd2 (e : S_Estate) (i4 : Nat) (x4 : S_Item) : St := ⟨52, [(2, I 80), (40, B true), (39, B true), (38, B false), (37, I x4.error), (36, .lref 1 0 4 3), (35, B false), (34, B false), (33, B false), (32, B true), (31, I x4.cost), (30, .lref 1 0 4 2), (29, B false), (28, B false), (27, B true), (26, .agg [I x4.now.lo, I x4.now.hi]), (25, .lref 1 0 4 0), (4, .lref 1 0 4 0), (24, .agg [I x4.now.lo, I x4.now.hi, I x4.cost, I x4.error]), (23, .ptr (.agg [I x4.now.lo, I x4.now.hi, I x4.cost, I x4.error])), (22, B true), (1, .lref 0 0 3 0), (19, .sl e.items.nl (e.items.l.map S_Item.D) (zsl e.items.nl 4) none), (20, I ((e.items.l.length : Nat) : Int)), (21, I ((i4 : Nat) : Int))], [(0, ⟨[.agg [.sl e.items.nl (e.items.l.map S_Item.D) (zsl e.items.nl 4) none, I e.whole.lo, I e.whole.hi]], 3, false⟩), (1, ⟨[.agg [I x4.now.lo, I x4.now.hi, I x4.cost, I x4.error]], 4, false⟩)], 2, 0⟩

def sd3 (e : S_Estate) (i4 : Nat) (x4 : S_Item) : St := ⟨52, [(2, I 80), (40, B true), (39, .tup []), (38, .tup []), (37, .tup []), (36, .tup []), (35, B true), (34, B true), (33, B true), (32, B false), (31, I x4.cost), (30, .lref 1 0 4 2), (29, B false), (28, B false), (27, B true), (26, .agg [I x4.now.lo, I x4.now.hi]), (25, .lref 1 0 4 0), (4, .lref 1 0 4 0), (24, .agg [I x4.now.lo, I x4.now.hi, I x4.cost, I x4.error]), (23, .ptr (.agg [I x4.now.lo, I x4.now.hi, I x4.cost, I x4.error])), (22, B true), (1, .lref 0 0 3 0), (19, .sl e.items.nl (e.items.l.map S_Item.D) (zsl e.items.nl 4) none), (20, I ((e.items.l.length : Nat) : Int)), (21, I ((i4 : Nat) : Int))], [(0, ⟨[.agg [.sl e.items.nl (e.items.l.map S_Item.D) (zsl e.items.nl 4) none, I e.whole.lo, I e.whole.hi]], 3, false⟩), (1, ⟨[.agg [I x4.now.lo, I x4.now.hi, I x4.cost, I x4.error]], 4, false⟩)], 2, 0⟩

def sd4 (e : S_Estate) (i4 : Nat) (x4 : S_Item) : St := ⟨52, [(2, I 80), (40, B true), (39, .tup []), (38, .tup []), (37, .tup []), (36, .tup []), (35, B true), (34, B true), (33, .tup []), (32, .tup []), (31, .tup []), (30, .tup []), (29, B true), (28, B true), (27, B false), (26, .agg [I x4.now.lo, I x4.now.hi]), (25, .lref 1 0 4 0), (4, .lref 1 0 4 0), (24, .agg [I x4.now.lo, I x4.now.hi, I x4.cost, I x4.error]), (23, .ptr (.agg [I x4.now.lo, I x4.now.hi, I x4.cost, I x4.error])), (22, B true), (1, .lref 0 0 3 0), (19, .sl e.items.nl (e.items.l.map S_Item.D) (zsl e.items.nl 4) none), (20, I ((e.items.l.length : Nat) : Int)), (21, I ((i4 : Nat) : Int))], [(0, ⟨[.agg [.sl e.items.nl (e.items.l.map S_Item.D) (zsl e.items.nl 4) none, I e.whole.lo, I e.whole.hi]], 3, false⟩), (1, ⟨[.agg [I x4.now.lo, I x4.now.hi, I x4.cost, I x4.error]], 4, false⟩)], 2, 0⟩

theorem yb (e : S_Estate) : (lim cfg).pure 53 [S_Estate.D e] = some (I (zy e)) := by
  unfold zy
  have p1 := (T_orders_within ((e.items.l.length : Nat) : Int) 1 12)
  cases h1 : (zO ((e.items.l.length : Nat) : Int) 1 12) with
  | true =>
    have g1 := within_t h1
    cases h2 : (orders_span e.whole 17179869184) with
    | true =>
      cases h9 : orders_Check_4 e.items.l 0 with
      | x0 =>
        try dsimp only
        have p2 := (po_lr (q := lr_orders_Check_4 e) (lp_orders_Check_4 e e.items.l 0 (List.drop_zero) (Nat.zero_le _) (by omega)) h9)
        cases h10 : ((y6 (zQ e) e.whole).2) with
        | true =>
          exact zk ((orders_Check_o1 e) ++ ((orders_Check_o2 e) ++ [.dec true])) (And.intro h10 (And.intro (T_orders_common (zQ e) e.whole) (And.intro (T_orders_all e (by omega)) (And.intro p2 (And.intro (zu S_Item.D e.items) (And.intro h2 (And.intro (T_orders_span e.whole 17179869184) (And.intro h1 (And.intro p1 (And.intro (zu S_Item.D e.items) trivial)))))))))) (by kernel_rfl)
        | false =>
          exact zk ((orders_Check_o1 e) ++ ((orders_Check_o2 e) ++ [.dec false])) (And.intro h10 (And.intro (T_orders_common (zQ e) e.whole) (And.intro (T_orders_all e (by omega)) (And.intro p2 (And.intro (zu S_Item.D e.items) (And.intro h2 (And.intro (T_orders_span e.whole 17179869184) (And.intro h1 (And.intro p1 (And.intro (zu S_Item.D e.items) trivial)))))))))) (by kernel_rfl)
      | x1 i4 x4 =>
        try dsimp only
        exact zk ((orders_Check_o1 e) ++ [.dec true, .rw 20 (I ((e.items.l.length : Nat) : Int)), .loop .ret (sd2 e i4 x4)]) (And.intro (po_lr (q := lr_orders_Check_4 e) (lp_orders_Check_4 e e.items.l 0 (List.drop_zero) (Nat.zero_le _) (by omega)) h9) (And.intro (zu S_Item.D e.items) (And.intro h2 (And.intro (T_orders_span e.whole 17179869184) (And.intro h1 (And.intro p1 (And.intro (zu S_Item.D e.items) trivial))))))) (by kernel_rfl)
      | x2 i4 x4 =>
        try dsimp only
        exact zk ((orders_Check_o1 e) ++ [.dec true, .rw 20 (I ((e.items.l.length : Nat) : Int)), .loop .ret (sd3 e i4 x4)]) (And.intro (po_lr (q := lr_orders_Check_4 e) (lp_orders_Check_4 e e.items.l 0 (List.drop_zero) (Nat.zero_le _) (by omega)) h9) (And.intro (zu S_Item.D e.items) (And.intro h2 (And.intro (T_orders_span e.whole 17179869184) (And.intro h1 (And.intro p1 (And.intro (zu S_Item.D e.items) trivial))))))) (by kernel_rfl)
      | x3 i4 x4 =>
        try dsimp only
        exact zk ((orders_Check_o1 e) ++ [.dec true, .rw 20 (I ((e.items.l.length : Nat) : Int)), .loop .ret (sd4 e i4 x4)]) (And.intro (po_lr (q := lr_orders_Check_4 e) (lp_orders_Check_4 e e.items.l 0 (List.drop_zero) (Nat.zero_le _) (by omega)) h9) (And.intro (zu S_Item.D e.items) (And.intro h2 (And.intro (T_orders_span e.whole 17179869184) (And.intro h1 (And.intro p1 (And.intro (zu S_Item.D e.items) trivial))))))) (by kernel_rfl)
    | false =>
      exact zk ((orders_Check_o1 e) ++ [.dec false]) (And.intro h2 (And.intro (T_orders_span e.whole 17179869184) (And.intro h1 (And.intro p1 (And.intro (zu S_Item.D e.items) trivial))))) (by kernel_rfl)
  | false =>
    have g1 := within_f h1
    exact zk [.rw 9 (I ((e.items.l.length : Nat) : Int)), .pure (B (zO ((e.items.l.length : Nat) : Int) 1 12)), .dec false] (And.intro h1 (And.intro p1 (And.intro (zu S_Item.D e.items) trivial))) (by kernel_rfl)

theorem check_len {e : S_Estate} (h : zy e = 0) : 1 ≤ e.items.l.length ∧ e.items.l.length ≤ 12 := by
  unfold zy at h
  cases hw : zO ((e.items.l.length : Nat) : Int) 1 12 with
  | true => have := within_t hw; omega
  | false => rw [hw] at h; simp at h

theorem z8 : EncOK 4 S_Item.D := ⟨fun _ _ _ => rfl, fun _ _ => rfl, fun _ _ _ => rfl, fun _ => ⟨rfl, rfl⟩⟩

end Go.VS

namespace Go.VS
open Go Go.Proofs
set_option maxHeartbeats 0
set_option linter.unusedSimpArgs false
set_option linter.unusedVariables false
end Go.VS

namespace Go.VS
open Go Go.Proofs
set_option maxHeartbeats 0
set_option linter.unusedSimpArgs false
set_option linter.unusedVariables false
noncomputable def lp58_3 : Code := subC [1, 1, 0, 1, 0, 0] (bodyC Try.f58)

inductive LR_r_All_3 where
  | x0 (v3_0 : Int) (v3_1 : Int)
instance : Inhabited LR_r_All_3 := ⟨.x0 default default⟩
def r_All_3 : List S_Item → Int → Int → LR_r_All_3
  | [], v3_0, v3_1 => .x0 v3_0 v3_1
  | x3 :: rest3, v3_0, v3_1 =>
    r_All_3 rest3 (w64 (v3_0 + x3.now.lo)) (w64 (v3_1 + x3.now.hi))
def lr_r_All_3 (e : S_Estate) : LR_r_All_3 → Exit × St
  | .x0 v3_0 v3_1 => ((.exit 0), ⟨36, [(10, B false), (9, I ((e.items.l.length : Nat) : Int)), (8, .sl e.items.nl (e.items.l.map S_Item.D) (zsl e.items.nl 4) none), (7, .lref 0 0 3 0), (6, I ((e.items.l.length : Nat) : Int)), (1, .lref 0 0 3 0), (2, .lref 1 0 2 0), (3, .lref 2 0 2 0), (4, I ((e.items.l.length : Nat) : Int))], [(0, ⟨[.agg [.sl e.items.nl (e.items.l.map S_Item.D) (zsl e.items.nl 4) none, I e.whole.lo, I e.whole.hi]], 3, false⟩), (1, ⟨[.agg [I 0, I 0]], 2, false⟩), (2, ⟨[.agg [I v3_0, I v3_1]], 2, false⟩)], 3, 0⟩)
theorem lp_r_All_3 (e : S_Estate) : ∀ (rest3 : List S_Item) (i3 : Nat) (v3_0 : Int) (v3_1 : Int) (hd3 : e.items.l.drop i3 = rest3) (hi3 : i3 ≤ e.items.l.length) (hL3 : e.items.l.length ≤ 9223372036854775807), (lim cfg).loop 58 lp58_3 ⟨36, [(1, .lref 0 0 3 0), (2, .lref 1 0 2 0), (3, .lref 2 0 2 0), (4, I ((i3 : Nat) : Int))], [(0, ⟨[.agg [.sl e.items.nl (e.items.l.map S_Item.D) (zsl e.items.nl 4) none, I e.whole.lo, I e.whole.hi]], 3, false⟩), (1, ⟨[.agg [I 0, I 0]], 2, false⟩), (2, ⟨[.agg [I v3_0, I v3_1]], 2, false⟩)], 3, 0⟩ = some (lr_r_All_3 e (r_All_3 rest3 v3_0 v3_1)) := by
  intro rest3
  induction rest3 with
  | nil =>
    intro i3 v3_0 v3_1 hd3 hi3 hL3
    unfold r_All_3
    obtain rfl : i3 = e.items.l.length := nil_eq hd3 hi3
    exact zS [.rw 9 (I ((e.items.l.length : Nat) : Int)), .dec false] (And.intro (lt_no hd3) (And.intro (zu S_Item.D e.items) trivial)) (by kernel_rfl)
  | cons x3 rest3 ih =>
    intro i3 v3_0 v3_1 hd3 hi3 hL3
    have hlt3 := zt hd3
    unfold r_All_3
    exact po_turn [.rw 9 (I ((e.items.l.length : Nat) : Int)), .dec true, .el (.agg [I x3.now.lo, I x3.now.hi, I x3.cost, I x3.error]), .el (.agg [I x3.now.lo, I x3.now.hi, I x3.cost, I x3.error]), .rw 12 (I ((i3 + 1 : Nat) : Int))] (And.intro (zX (i := i3) (by have := zt hd3; omega)) (And.intro (el_at (s := e.items) (f := S_Item.D) (k := 4) hd3) (And.intro (el_at (s := e.items) (f := S_Item.D) (k := 4) hd3) (And.intro (lt_at hd3) (And.intro (zu S_Item.D e.items) trivial))))) (ih (i3 + 1) (w64 (v3_0 + x3.now.lo)) (w64 (v3_1 + x3.now.hi)) (zA hd3) (zt hd3) (by omega)) (by kernel_rfl)

def r_All (e : S_Estate) : S_Span :=
  match r_All_3 e.items.l 0 0 with
  | .x0 v3_0 v3_1 =>
    (⟨v3_0, v3_1⟩ : S_Span)

def sd9 (e : S_Estate) (v3_0 : Int) (v3_1 : Int) : St := ⟨36, [(10, B false), (9, I ((e.items.l.length : Nat) : Int)), (8, .sl e.items.nl (e.items.l.map S_Item.D) (zsl e.items.nl 4) none), (7, .lref 0 0 3 0), (6, I ((e.items.l.length : Nat) : Int)), (1, .lref 0 0 3 0), (2, .lref 1 0 2 0), (3, .lref 2 0 2 0), (4, I ((e.items.l.length : Nat) : Int))], [(0, ⟨[.agg [.sl e.items.nl (e.items.l.map S_Item.D) (zsl e.items.nl 4) none, I e.whole.lo, I e.whole.hi]], 3, false⟩), (1, ⟨[.agg [I 0, I 0]], 2, false⟩), (2, ⟨[.agg [I v3_0, I v3_1]], 2, false⟩)], 3, 0⟩

theorem T_r_All (e : S_Estate) (hL_e_items : e.items.l.length ≤ 9223372036854775807) : (lim cfg).pure 58 [S_Estate.D e] = some (S_Span.D (r_All e)) := by
  unfold r_All
  cases h1 : r_All_3 e.items.l 0 0 with
  | x0 v3_0 v3_1 =>
    try dsimp only
    exact zk [.loop (.exit 0) (sd9 e v3_0 v3_1)] (And.intro (po_lr (q := lr_r_All_3 e) (lp_r_All_3 e e.items.l 0 0 0 (List.drop_zero) (Nat.zero_le _) (by omega)) h1) trivial) (by kernel_rfl)

noncomputable def lp19_4 : Code := subC [1, 1, 0, 1, 0, 0] (bodyC Try.f19)

inductive LR_r_Valid_4 where
  | x0
  | x1 (i4 : Nat) (x4 : S_Item)
  | x2 (i4 : Nat) (x4 : S_Item)
  | x3 (i4 : Nat) (x4 : S_Item)
  | x4 (i4 : Nat) (x4 : S_Item)
  | x5 (i4 : Nat) (x4 : S_Item)
  | x6 (i4 : Nat) (x4 : S_Item)
  | x7 (i4 : Nat) (x4 : S_Item)
instance : Inhabited LR_r_Valid_4 := ⟨.x0⟩
def r_Valid_4 : List S_Item → Nat → LR_r_Valid_4
  | [], i4 => .x0
  | x4 :: rest4, i4 =>
    bif decide (x4.now.lo < 0) then
      .x1 i4 x4
    else
      bif decide (x4.now.lo > x4.now.hi) then
        .x2 i4 x4
      else
        bif decide (x4.now.hi > 1073741824) then
          .x3 i4 x4
        else
          bif decide (x4.cost < 0) then
            .x4 i4 x4
          else
            bif decide (x4.cost > 10000) then
              .x5 i4 x4
            else
              bif decide (x4.error < 0) then
                .x6 i4 x4
              else
                bif decide (x4.error > 1048576) then
                  .x7 i4 x4
                else
                  r_Valid_4 rest4 (i4 + 1)
def lr_r_Valid_4 (e : S_Estate) : LR_r_Valid_4 → Exit × St
  | .x0 => ((.exit 0), ⟨104, [(41, B false), (40, I ((e.items.l.length : Nat) : Int)), (39, .sl e.items.nl (e.items.l.map S_Item.D) (zsl e.items.nl 4) none), (38, .lref 0 0 3 0), (37, I ((e.items.l.length : Nat) : Int)), (1, .lref 0 0 3 0), (3, I ((e.items.l.length : Nat) : Int))], [(0, ⟨[.agg [.sl e.items.nl (e.items.l.map S_Item.D) (zsl e.items.nl 4) none, I e.whole.lo, I e.whole.hi]], 3, false⟩)], 1, 0⟩)
  | .x1 i4 x4 => (.ret, ⟨104, [(2, B false), (87, B true), (86, .tup []), (85, .tup []), (84, .tup []), (83, B true), (82, B true), (81, .tup []), (80, .tup []), (79, .tup []), (78, B true), (77, B true), (76, .tup []), (75, .tup []), (74, .tup []), (73, B true), (72, B true), (71, .tup []), (70, .tup []), (69, .tup []), (68, B true), (67, B true), (66, .tup []), (65, .tup []), (64, .tup []), (63, .tup []), (62, B true), (61, B true), (60, .tup []), (59, .tup []), (58, .tup []), (57, .tup []), (56, .tup []), (55, .tup []), (54, .tup []), (53, B true), (52, B true), (51, I x4.now.lo), (50, .lref 1 0 4 0), (49, .lref 1 0 4 0), (4, .lref 1 0 4 0), (48, .agg [I x4.now.lo, I x4.now.hi, I x4.cost, I x4.error]), (47, .ptr (.agg [I x4.now.lo, I x4.now.hi, I x4.cost, I x4.error])), (46, I ((i4 : Nat) : Int)), (45, .sl e.items.nl (e.items.l.map S_Item.D) (zsl e.items.nl 4) none), (44, .lref 0 0 3 0), (41, B true), (40, I ((e.items.l.length : Nat) : Int)), (39, .sl e.items.nl (e.items.l.map S_Item.D) (zsl e.items.nl 4) none), (38, .lref 0 0 3 0), (37, I ((i4 : Nat) : Int)), (1, .lref 0 0 3 0), (3, I ((i4 : Nat) : Int))], [(0, ⟨[.agg [.sl e.items.nl (e.items.l.map S_Item.D) (zsl e.items.nl 4) none, I e.whole.lo, I e.whole.hi]], 3, false⟩), (1, ⟨[.agg [I x4.now.lo, I x4.now.hi, I x4.cost, I x4.error]], 4, false⟩)], 2, 0⟩)
  | .x2 i4 x4 => (.ret, ⟨104, [(2, B false), (87, B true), (86, .tup []), (85, .tup []), (84, .tup []), (83, B true), (82, B true), (81, .tup []), (80, .tup []), (79, .tup []), (78, B true), (77, B true), (76, .tup []), (75, .tup []), (74, .tup []), (73, B true), (72, B true), (71, .tup []), (70, .tup []), (69, .tup []), (68, B true), (67, B true), (66, .tup []), (65, .tup []), (64, .tup []), (63, .tup []), (62, B true), (61, B true), (60, B true), (59, I x4.now.hi), (58, .lref 1 0 4 1), (57, .lref 1 0 4 0), (56, I x4.now.lo), (55, .lref 1 0 4 0), (54, .lref 1 0 4 0), (53, B false), (52, B false), (51, I x4.now.lo), (50, .lref 1 0 4 0), (49, .lref 1 0 4 0), (4, .lref 1 0 4 0), (48, .agg [I x4.now.lo, I x4.now.hi, I x4.cost, I x4.error]), (47, .ptr (.agg [I x4.now.lo, I x4.now.hi, I x4.cost, I x4.error])), (46, I ((i4 : Nat) : Int)), (45, .sl e.items.nl (e.items.l.map S_Item.D) (zsl e.items.nl 4) none), (44, .lref 0 0 3 0), (41, B true), (40, I ((e.items.l.length : Nat) : Int)), (39, .sl e.items.nl (e.items.l.map S_Item.D) (zsl e.items.nl 4) none), (38, .lref 0 0 3 0), (37, I ((i4 : Nat) : Int)), (1, .lref 0 0 3 0), (3, I ((i4 : Nat) : Int))], [(0, ⟨[.agg [.sl e.items.nl (e.items.l.map S_Item.D) (zsl e.items.nl 4) none, I e.whole.lo, I e.whole.hi]], 3, false⟩), (1, ⟨[.agg [I x4.now.lo, I x4.now.hi, I x4.cost, I x4.error]], 4, false⟩)], 2, 0⟩)
  | .x3 i4 x4 => (.ret, ⟨104, [(2, B false), (87, B true), (86, .tup []), (85, .tup []), (84, .tup []), (83, B true), (82, B true), (81, .tup []), (80, .tup []), (79, .tup []), (78, B true), (77, B true), (76, .tup []), (75, .tup []), (74, .tup []), (73, B true), (72, B true), (71, .tup []), (70, .tup []), (69, .tup []), (68, B true), (67, B true), (66, B true), (65, I x4.now.hi), (64, .lref 1 0 4 1), (63, .lref 1 0 4 0), (62, B false), (61, B false), (60, B false), (59, I x4.now.hi), (58, .lref 1 0 4 1), (57, .lref 1 0 4 0), (56, I x4.now.lo), (55, .lref 1 0 4 0), (54, .lref 1 0 4 0), (53, B false), (52, B false), (51, I x4.now.lo), (50, .lref 1 0 4 0), (49, .lref 1 0 4 0), (4, .lref 1 0 4 0), (48, .agg [I x4.now.lo, I x4.now.hi, I x4.cost, I x4.error]), (47, .ptr (.agg [I x4.now.lo, I x4.now.hi, I x4.cost, I x4.error])), (46, I ((i4 : Nat) : Int)), (45, .sl e.items.nl (e.items.l.map S_Item.D) (zsl e.items.nl 4) none), (44, .lref 0 0 3 0), (41, B true), (40, I ((e.items.l.length : Nat) : Int)), (39, .sl e.items.nl (e.items.l.map S_Item.D) (zsl e.items.nl 4) none), (38, .lref 0 0 3 0), (37, I ((i4 : Nat) : Int)), (1, .lref 0 0 3 0), (3, I ((i4 : Nat) : Int))], [(0, ⟨[.agg [.sl e.items.nl (e.items.l.map S_Item.D) (zsl e.items.nl 4) none, I e.whole.lo, I e.whole.hi]], 3, false⟩), (1, ⟨[.agg [I x4.now.lo, I x4.now.hi, I x4.cost, I x4.error]], 4, false⟩)], 2, 0⟩)
  | .x4 i4 x4 => (.ret, ⟨104, [(2, B false), (87, B true), (86, .tup []), (85, .tup []), (84, .tup []), (83, B true), (82, B true), (81, .tup []), (80, .tup []), (79, .tup []), (78, B true), (77, B true), (76, .tup []), (75, .tup []), (74, .tup []), (73, B true), (72, B true), (71, B true), (70, I x4.cost), (69, .lref 1 0 4 2), (68, B false), (67, B false), (66, B false), (65, I x4.now.hi), (64, .lref 1 0 4 1), (63, .lref 1 0 4 0), (62, B false), (61, B false), (60, B false), (59, I x4.now.hi), (58, .lref 1 0 4 1), (57, .lref 1 0 4 0), (56, I x4.now.lo), (55, .lref 1 0 4 0), (54, .lref 1 0 4 0), (53, B false), (52, B false), (51, I x4.now.lo), (50, .lref 1 0 4 0), (49, .lref 1 0 4 0), (4, .lref 1 0 4 0), (48, .agg [I x4.now.lo, I x4.now.hi, I x4.cost, I x4.error]), (47, .ptr (.agg [I x4.now.lo, I x4.now.hi, I x4.cost, I x4.error])), (46, I ((i4 : Nat) : Int)), (45, .sl e.items.nl (e.items.l.map S_Item.D) (zsl e.items.nl 4) none), (44, .lref 0 0 3 0), (41, B true), (40, I ((e.items.l.length : Nat) : Int)), (39, .sl e.items.nl (e.items.l.map S_Item.D) (zsl e.items.nl 4) none), (38, .lref 0 0 3 0), (37, I ((i4 : Nat) : Int)), (1, .lref 0 0 3 0), (3, I ((i4 : Nat) : Int))], [(0, ⟨[.agg [.sl e.items.nl (e.items.l.map S_Item.D) (zsl e.items.nl 4) none, I e.whole.lo, I e.whole.hi]], 3, false⟩), (1, ⟨[.agg [I x4.now.lo, I x4.now.hi, I x4.cost, I x4.error]], 4, false⟩)], 2, 0⟩)
  | .x5 i4 x4 => (.ret, ⟨104, [(2, B false), (87, B true), (86, .tup []), (85, .tup []), (84, .tup []), (83, B true), (82, B true), (81, .tup []), (80, .tup []), (79, .tup []), (78, B true), (77, B true), (76, B true), (75, I x4.cost), (74, .lref 1 0 4 2), (73, B false), (72, B false), (71, B false), (70, I x4.cost), (69, .lref 1 0 4 2), (68, B false), (67, B false), (66, B false), (65, I x4.now.hi), (64, .lref 1 0 4 1), (63, .lref 1 0 4 0), (62, B false), (61, B false), (60, B false), (59, I x4.now.hi), (58, .lref 1 0 4 1), (57, .lref 1 0 4 0), (56, I x4.now.lo), (55, .lref 1 0 4 0), (54, .lref 1 0 4 0), (53, B false), (52, B false), (51, I x4.now.lo), (50, .lref 1 0 4 0), (49, .lref 1 0 4 0), (4, .lref 1 0 4 0), (48, .agg [I x4.now.lo, I x4.now.hi, I x4.cost, I x4.error]), (47, .ptr (.agg [I x4.now.lo, I x4.now.hi, I x4.cost, I x4.error])), (46, I ((i4 : Nat) : Int)), (45, .sl e.items.nl (e.items.l.map S_Item.D) (zsl e.items.nl 4) none), (44, .lref 0 0 3 0), (41, B true), (40, I ((e.items.l.length : Nat) : Int)), (39, .sl e.items.nl (e.items.l.map S_Item.D) (zsl e.items.nl 4) none), (38, .lref 0 0 3 0), (37, I ((i4 : Nat) : Int)), (1, .lref 0 0 3 0), (3, I ((i4 : Nat) : Int))], [(0, ⟨[.agg [.sl e.items.nl (e.items.l.map S_Item.D) (zsl e.items.nl 4) none, I e.whole.lo, I e.whole.hi]], 3, false⟩), (1, ⟨[.agg [I x4.now.lo, I x4.now.hi, I x4.cost, I x4.error]], 4, false⟩)], 2, 0⟩)
  | .x6 i4 x4 => (.ret, ⟨104, [(2, B false), (87, B true), (86, .tup []), (85, .tup []), (84, .tup []), (83, B true), (82, B true), (81, B true), (80, I x4.error), (79, .lref 1 0 4 3), (78, B false), (77, B false), (76, B false), (75, I x4.cost), (74, .lref 1 0 4 2), (73, B false), (72, B false), (71, B false), (70, I x4.cost), (69, .lref 1 0 4 2), (68, B false), (67, B false), (66, B false), (65, I x4.now.hi), (64, .lref 1 0 4 1), (63, .lref 1 0 4 0), (62, B false), (61, B false), (60, B false), (59, I x4.now.hi), (58, .lref 1 0 4 1), (57, .lref 1 0 4 0), (56, I x4.now.lo), (55, .lref 1 0 4 0), (54, .lref 1 0 4 0), (53, B false), (52, B false), (51, I x4.now.lo), (50, .lref 1 0 4 0), (49, .lref 1 0 4 0), (4, .lref 1 0 4 0), (48, .agg [I x4.now.lo, I x4.now.hi, I x4.cost, I x4.error]), (47, .ptr (.agg [I x4.now.lo, I x4.now.hi, I x4.cost, I x4.error])), (46, I ((i4 : Nat) : Int)), (45, .sl e.items.nl (e.items.l.map S_Item.D) (zsl e.items.nl 4) none), (44, .lref 0 0 3 0), (41, B true), (40, I ((e.items.l.length : Nat) : Int)), (39, .sl e.items.nl (e.items.l.map S_Item.D) (zsl e.items.nl 4) none), (38, .lref 0 0 3 0), (37, I ((i4 : Nat) : Int)), (1, .lref 0 0 3 0), (3, I ((i4 : Nat) : Int))], [(0, ⟨[.agg [.sl e.items.nl (e.items.l.map S_Item.D) (zsl e.items.nl 4) none, I e.whole.lo, I e.whole.hi]], 3, false⟩), (1, ⟨[.agg [I x4.now.lo, I x4.now.hi, I x4.cost, I x4.error]], 4, false⟩)], 2, 0⟩)
  | .x7 i4 x4 => (.ret, ⟨104, [(2, B false), (87, B true), (86, B true), (85, I x4.error), (84, .lref 1 0 4 3), (83, B false), (82, B false), (81, B false), (80, I x4.error), (79, .lref 1 0 4 3), (78, B false), (77, B false), (76, B false), (75, I x4.cost), (74, .lref 1 0 4 2), (73, B false), (72, B false), (71, B false), (70, I x4.cost), (69, .lref 1 0 4 2), (68, B false), (67, B false), (66, B false), (65, I x4.now.hi), (64, .lref 1 0 4 1), (63, .lref 1 0 4 0), (62, B false), (61, B false), (60, B false), (59, I x4.now.hi), (58, .lref 1 0 4 1), (57, .lref 1 0 4 0), (56, I x4.now.lo), (55, .lref 1 0 4 0), (54, .lref 1 0 4 0), (53, B false), (52, B false), (51, I x4.now.lo), (50, .lref 1 0 4 0), (49, .lref 1 0 4 0), (4, .lref 1 0 4 0), (48, .agg [I x4.now.lo, I x4.now.hi, I x4.cost, I x4.error]), (47, .ptr (.agg [I x4.now.lo, I x4.now.hi, I x4.cost, I x4.error])), (46, I ((i4 : Nat) : Int)), (45, .sl e.items.nl (e.items.l.map S_Item.D) (zsl e.items.nl 4) none), (44, .lref 0 0 3 0), (41, B true), (40, I ((e.items.l.length : Nat) : Int)), (39, .sl e.items.nl (e.items.l.map S_Item.D) (zsl e.items.nl 4) none), (38, .lref 0 0 3 0), (37, I ((i4 : Nat) : Int)), (1, .lref 0 0 3 0), (3, I ((i4 : Nat) : Int))], [(0, ⟨[.agg [.sl e.items.nl (e.items.l.map S_Item.D) (zsl e.items.nl 4) none, I e.whole.lo, I e.whole.hi]], 3, false⟩), (1, ⟨[.agg [I x4.now.lo, I x4.now.hi, I x4.cost, I x4.error]], 4, false⟩)], 2, 0⟩)
def r_Valid_4_l_o1 (e : S_Estate) (x4 : S_Item) : List Ora := [.rw 40 (I ((e.items.l.length : Nat) : Int)), .dec true, .el (.agg [I x4.now.lo, I x4.now.hi, I x4.cost, I x4.error]), .dec false]
theorem lp_r_Valid_4 (e : S_Estate) : ∀ (rest4 : List S_Item) (i4 : Nat) (hd4 : e.items.l.drop i4 = rest4) (hi4 : i4 ≤ e.items.l.length) (hL4 : e.items.l.length ≤ 9223372036854775807), (lim cfg).loop 19 lp19_4 ⟨104, [(1, .lref 0 0 3 0), (3, I ((i4 : Nat) : Int))], [(0, ⟨[.agg [.sl e.items.nl (e.items.l.map S_Item.D) (zsl e.items.nl 4) none, I e.whole.lo, I e.whole.hi]], 3, false⟩)], 1, 0⟩ = some (lr_r_Valid_4 e (r_Valid_4 rest4 i4)) := by
  intro rest4
  induction rest4 with
  | nil =>
    intro i4 hd4 hi4 hL4
    unfold r_Valid_4
    obtain rfl : i4 = e.items.l.length := nil_eq hd4 hi4
    exact zS [.rw 40 (I ((e.items.l.length : Nat) : Int)), .dec false] (And.intro (lt_no hd4) (And.intro (zu S_Item.D e.items) trivial)) (by kernel_rfl)
  | cons x4 rest4 ih =>
    intro i4 hd4 hi4 hL4
    have hlt4 := zt hd4
    unfold r_Valid_4
    have p1 := (el_at (s := e.items) (f := S_Item.D) (k := 4) hd4)
    cases h13 : decide (x4.now.lo < 0) with
    | true =>
      have g13 := of_decide_eq_true h13
      exact zS [.rw 40 (I ((e.items.l.length : Nat) : Int)), .dec true, .el (.agg [I x4.now.lo, I x4.now.hi, I x4.cost, I x4.error]), .dec true] (And.intro h13 (And.intro p1 (And.intro (lt_at hd4) (And.intro (zu S_Item.D e.items) trivial)))) (by kernel_rfl)
    | false =>
      have g13 := of_decide_eq_false h13
      cases h14 : decide (x4.now.lo > x4.now.hi) with
      | true =>
        have g14 := of_decide_eq_true h14
        exact zS ((r_Valid_4_l_o1 e x4) ++ [.dec true]) (And.intro h14 (And.intro h13 (And.intro p1 (And.intro (lt_at hd4) (And.intro (zu S_Item.D e.items) trivial))))) (by kernel_rfl)
      | false =>
        have g14 := of_decide_eq_false h14
        cases h15 : decide (x4.now.hi > 1073741824) with
        | true =>
          have g15 := of_decide_eq_true h15
          exact zS ((r_Valid_4_l_o1 e x4) ++ [.dec false, .dec true]) (And.intro h15 (And.intro h14 (And.intro h13 (And.intro p1 (And.intro (lt_at hd4) (And.intro (zu S_Item.D e.items) trivial)))))) (by kernel_rfl)
        | false =>
          have g15 := of_decide_eq_false h15
          cases h16 : decide (x4.cost < 0) with
          | true =>
            have g16 := of_decide_eq_true h16
            exact zS ((r_Valid_4_l_o1 e x4) ++ [.dec false, .dec false, .dec true]) (And.intro h16 (And.intro h15 (And.intro h14 (And.intro h13 (And.intro p1 (And.intro (lt_at hd4) (And.intro (zu S_Item.D e.items) trivial))))))) (by kernel_rfl)
          | false =>
            have g16 := of_decide_eq_false h16
            cases h17 : decide (x4.cost > 10000) with
            | true =>
              have g17 := of_decide_eq_true h17
              exact zS ((r_Valid_4_l_o1 e x4) ++ [.dec false, .dec false, .dec false, .dec true]) (And.intro h17 (And.intro h16 (And.intro h15 (And.intro h14 (And.intro h13 (And.intro p1 (And.intro (lt_at hd4) (And.intro (zu S_Item.D e.items) trivial)))))))) (by kernel_rfl)
            | false =>
              have g17 := of_decide_eq_false h17
              cases h18 : decide (x4.error < 0) with
              | true =>
                have g18 := of_decide_eq_true h18
                exact zS ((r_Valid_4_l_o1 e x4) ++ [.dec false, .dec false, .dec false, .dec false, .dec true]) (And.intro h18 (And.intro h17 (And.intro h16 (And.intro h15 (And.intro h14 (And.intro h13 (And.intro p1 (And.intro (lt_at hd4) (And.intro (zu S_Item.D e.items) trivial))))))))) (by kernel_rfl)
              | false =>
                have g18 := of_decide_eq_false h18
                cases h19 : decide (x4.error > 1048576) with
                | true =>
                  have g19 := of_decide_eq_true h19
                  exact zS ((r_Valid_4_l_o1 e x4) ++ [.dec false, .dec false, .dec false, .dec false, .dec false, .dec true]) (And.intro h19 (And.intro h18 (And.intro h17 (And.intro h16 (And.intro h15 (And.intro h14 (And.intro h13 (And.intro p1 (And.intro (lt_at hd4) (And.intro (zu S_Item.D e.items) trivial)))))))))) (by kernel_rfl)
                | false =>
                  have g19 := of_decide_eq_false h19
                  exact po_turn ((r_Valid_4_l_o1 e x4) ++ [.dec false, .dec false, .dec false, .dec false, .dec false, .dec false, .rw 43 (I ((i4 + 1 : Nat) : Int))]) (And.intro (zX (i := i4) (by have := zt hd4; omega)) (And.intro h19 (And.intro h18 (And.intro h17 (And.intro h16 (And.intro h15 (And.intro h14 (And.intro h13 (And.intro p1 (And.intro (lt_at hd4) (And.intro (zu S_Item.D e.items) trivial))))))))))) (ih (i4 + 1) (zA hd4) (zt hd4) (by omega)) (by kernel_rfl)

def zV (e : S_Estate) : Bool :=
  bif decide (((e.items.l.length : Nat) : Int) < 1) then
    false
  else
    bif decide (((e.items.l.length : Nat) : Int) > 12) then
      false
    else
      bif decide (e.whole.lo < 0) then
        false
      else
        bif decide (e.whole.lo > e.whole.hi) then
          false
        else
          bif decide (e.whole.hi > 17179869184) then
            false
          else
            match r_Valid_4 e.items.l 0 with
            | .x0 =>
              bif decide (((r_All e).lo) ≤ e.whole.hi) then
                bif decide (((r_All e).hi) ≥ e.whole.lo) then
                  true
                else
                  false
              else
                false
            | .x1 i4 x4 =>
              false
            | .x2 i4 x4 =>
              false
            | .x3 i4 x4 =>
              false
            | .x4 i4 x4 =>
              false
            | .x5 i4 x4 =>
              false
            | .x6 i4 x4 =>
              false
            | .x7 i4 x4 =>
              false

def r_Valid_o1 (e : S_Estate) : List Ora := [.rw 8 (I ((e.items.l.length : Nat) : Int)), .dec false, .rw 13 (I ((e.items.l.length : Nat) : Int)), .dec false, .dec false]

def sd10 (e : S_Estate) : St := ⟨104, [(41, B false), (40, I ((e.items.l.length : Nat) : Int)), (39, .sl e.items.nl (e.items.l.map S_Item.D) (zsl e.items.nl 4) none), (38, .lref 0 0 3 0), (37, I ((e.items.l.length : Nat) : Int)), (1, .lref 0 0 3 0), (3, I ((e.items.l.length : Nat) : Int))], [(0, ⟨[.agg [.sl e.items.nl (e.items.l.map S_Item.D) (zsl e.items.nl 4) none, I e.whole.lo, I e.whole.hi]], 3, false⟩)], 1, 0⟩

def sd11 (e : S_Estate) (i4 : Nat) (x4 : S_Item) : St := ⟨104, [(2, B false), (87, B true), (86, .tup []), (85, .tup []), (84, .tup []), (83, B true), (82, B true), (81, .tup []), (80, .tup []), (79, .tup []), (78, B true), (77, B true), (76, .tup []), (75, .tup []), (74, .tup []), (73, B true), (72, B true), (71, .tup []), (70, .tup []), (69, .tup []), (68, B true), (67, B true), (66, .tup []), (65, .tup []), (64, .tup []), (63, .tup []), (62, B true), (61, B true), (60, .tup []), (59, .tup []), (58, .tup []), (57, .tup []), (56, .tup []), (55, .tup []), (54, .tup []), (53, B true), (52, B true), (51, I x4.now.lo), (50, .lref 1 0 4 0), (49, .lref 1 0 4 0), (4, .lref 1 0 4 0), (48, .agg [I x4.now.lo, I x4.now.hi, I x4.cost, I x4.error]), (47, .ptr (.agg [I x4.now.lo, I x4.now.hi, I x4.cost, I x4.error])), (46, I ((i4 : Nat) : Int)), (45, .sl e.items.nl (e.items.l.map S_Item.D) (zsl e.items.nl 4) none), (44, .lref 0 0 3 0), (41, B true), (40, I ((e.items.l.length : Nat) : Int)), (39, .sl e.items.nl (e.items.l.map S_Item.D) (zsl e.items.nl 4) none), (38, .lref 0 0 3 0), (37, I ((i4 : Nat) : Int)), (1, .lref 0 0 3 0), (3, I ((i4 : Nat) : Int))], [(0, ⟨[.agg [.sl e.items.nl (e.items.l.map S_Item.D) (zsl e.items.nl 4) none, I e.whole.lo, I e.whole.hi]], 3, false⟩), (1, ⟨[.agg [I x4.now.lo, I x4.now.hi, I x4.cost, I x4.error]], 4, false⟩)], 2, 0⟩

def sd12 (e : S_Estate) (i4 : Nat) (x4 : S_Item) : St := ⟨104, [(2, B false), (87, B true), (86, .tup []), (85, .tup []), (84, .tup []), (83, B true), (82, B true), (81, .tup []), (80, .tup []), (79, .tup []), (78, B true), (77, B true), (76, .tup []), (75, .tup []), (74, .tup []), (73, B true), (72, B true), (71, .tup []), (70, .tup []), (69, .tup []), (68, B true), (67, B true), (66, .tup []), (65, .tup []), (64, .tup []), (63, .tup []), (62, B true), (61, B true), (60, B true), (59, I x4.now.hi), (58, .lref 1 0 4 1), (57, .lref 1 0 4 0), (56, I x4.now.lo), (55, .lref 1 0 4 0), (54, .lref 1 0 4 0), (53, B false), (52, B false), (51, I x4.now.lo), (50, .lref 1 0 4 0), (49, .lref 1 0 4 0), (4, .lref 1 0 4 0), (48, .agg [I x4.now.lo, I x4.now.hi, I x4.cost, I x4.error]), (47, .ptr (.agg [I x4.now.lo, I x4.now.hi, I x4.cost, I x4.error])), (46, I ((i4 : Nat) : Int)), (45, .sl e.items.nl (e.items.l.map S_Item.D) (zsl e.items.nl 4) none), (44, .lref 0 0 3 0), (41, B true), (40, I ((e.items.l.length : Nat) : Int)), (39, .sl e.items.nl (e.items.l.map S_Item.D) (zsl e.items.nl 4) none), (38, .lref 0 0 3 0), (37, I ((i4 : Nat) : Int)), (1, .lref 0 0 3 0), (3, I ((i4 : Nat) : Int))], [(0, ⟨[.agg [.sl e.items.nl (e.items.l.map S_Item.D) (zsl e.items.nl 4) none, I e.whole.lo, I e.whole.hi]], 3, false⟩), (1, ⟨[.agg [I x4.now.lo, I x4.now.hi, I x4.cost, I x4.error]], 4, false⟩)], 2, 0⟩

def sd13 (e : S_Estate) (i4 : Nat) (x4 : S_Item) : St := ⟨104, [(2, B false), (87, B true), (86, .tup []), (85, .tup []), (84, .tup []), (83, B true), (82, B true), (81, .tup []), (80, .tup []), (79, .tup []), (78, B true), (77, B true), (76, .tup []), (75, .tup []), (74, .tup []), (73, B true), (72, B true), (71, .tup []), (70, .tup []), (69, .tup []), (68, B true), (67, B true), (66, B true), (65, I x4.now.hi), (64, .lref 1 0 4 1), (63, .lref 1 0 4 0), (62, B false), (61, B false), (60, B false), (59, I x4.now.hi), (58, .lref 1 0 4 1), (57, .lref 1 0 4 0), (56, I x4.now.lo), (55, .lref 1 0 4 0), (54, .lref 1 0 4 0), (53, B false), (52, B false), (51, I x4.now.lo), (50, .lref 1 0 4 0), (49, .lref 1 0 4 0), (4, .lref 1 0 4 0), (48, .agg [I x4.now.lo, I x4.now.hi, I x4.cost, I x4.error]), (47, .ptr (.agg [I x4.now.lo, I x4.now.hi, I x4.cost, I x4.error])), (46, I ((i4 : Nat) : Int)), (45, .sl e.items.nl (e.items.l.map S_Item.D) (zsl e.items.nl 4) none), (44, .lref 0 0 3 0), (41, B true), (40, I ((e.items.l.length : Nat) : Int)), (39, .sl e.items.nl (e.items.l.map S_Item.D) (zsl e.items.nl 4) none), (38, .lref 0 0 3 0), (37, I ((i4 : Nat) : Int)), (1, .lref 0 0 3 0), (3, I ((i4 : Nat) : Int))], [(0, ⟨[.agg [.sl e.items.nl (e.items.l.map S_Item.D) (zsl e.items.nl 4) none, I e.whole.lo, I e.whole.hi]], 3, false⟩), (1, ⟨[.agg [I x4.now.lo, I x4.now.hi, I x4.cost, I x4.error]], 4, false⟩)], 2, 0⟩

def sd14 (e : S_Estate) (i4 : Nat) (x4 : S_Item) : St := ⟨104, [(2, B false), (87, B true), (86, .tup []), (85, .tup []), (84, .tup []), (83, B true), (82, B true), (81, .tup []), (80, .tup []), (79, .tup []), (78, B true), (77, B true), (76, .tup []), (75, .tup []), (74, .tup []), (73, B true), (72, B true), (71, B true), (70, I x4.cost), (69, .lref 1 0 4 2), (68, B false), (67, B false), (66, B false), (65, I x4.now.hi), (64, .lref 1 0 4 1), (63, .lref 1 0 4 0), (62, B false), (61, B false), (60, B false), (59, I x4.now.hi), (58, .lref 1 0 4 1), (57, .lref 1 0 4 0), (56, I x4.now.lo), (55, .lref 1 0 4 0), (54, .lref 1 0 4 0), (53, B false), (52, B false), (51, I x4.now.lo), (50, .lref 1 0 4 0), (49, .lref 1 0 4 0), (4, .lref 1 0 4 0), (48, .agg [I x4.now.lo, I x4.now.hi, I x4.cost, I x4.error]), (47, .ptr (.agg [I x4.now.lo, I x4.now.hi, I x4.cost, I x4.error])), (46, I ((i4 : Nat) : Int)), (45, .sl e.items.nl (e.items.l.map S_Item.D) (zsl e.items.nl 4) none), (44, .lref 0 0 3 0), (41, B true), (40, I ((e.items.l.length : Nat) : Int)), (39, .sl e.items.nl (e.items.l.map S_Item.D) (zsl e.items.nl 4) none), (38, .lref 0 0 3 0), (37, I ((i4 : Nat) : Int)), (1, .lref 0 0 3 0), (3, I ((i4 : Nat) : Int))], [(0, ⟨[.agg [.sl e.items.nl (e.items.l.map S_Item.D) (zsl e.items.nl 4) none, I e.whole.lo, I e.whole.hi]], 3, false⟩), (1, ⟨[.agg [I x4.now.lo, I x4.now.hi, I x4.cost, I x4.error]], 4, false⟩)], 2, 0⟩

def sd15 (e : S_Estate) (i4 : Nat) (x4 : S_Item) : St := ⟨104, [(2, B false), (87, B true), (86, .tup []), (85, .tup []), (84, .tup []), (83, B true), (82, B true), (81, .tup []), (80, .tup []), (79, .tup []), (78, B true), (77, B true), (76, B true), (75, I x4.cost), (74, .lref 1 0 4 2), (73, B false), (72, B false), (71, B false), (70, I x4.cost), (69, .lref 1 0 4 2), (68, B false), (67, B false), (66, B false), (65, I x4.now.hi), (64, .lref 1 0 4 1), (63, .lref 1 0 4 0), (62, B false), (61, B false), (60, B false), (59, I x4.now.hi), (58, .lref 1 0 4 1), (57, .lref 1 0 4 0), (56, I x4.now.lo), (55, .lref 1 0 4 0), (54, .lref 1 0 4 0), (53, B false), (52, B false), (51, I x4.now.lo), (50, .lref 1 0 4 0), (49, .lref 1 0 4 0), (4, .lref 1 0 4 0), (48, .agg [I x4.now.lo, I x4.now.hi, I x4.cost, I x4.error]), (47, .ptr (.agg [I x4.now.lo, I x4.now.hi, I x4.cost, I x4.error])), (46, I ((i4 : Nat) : Int)), (45, .sl e.items.nl (e.items.l.map S_Item.D) (zsl e.items.nl 4) none), (44, .lref 0 0 3 0), (41, B true), (40, I ((e.items.l.length : Nat) : Int)), (39, .sl e.items.nl (e.items.l.map S_Item.D) (zsl e.items.nl 4) none), (38, .lref 0 0 3 0), (37, I ((i4 : Nat) : Int)), (1, .lref 0 0 3 0), (3, I ((i4 : Nat) : Int))], [(0, ⟨[.agg [.sl e.items.nl (e.items.l.map S_Item.D) (zsl e.items.nl 4) none, I e.whole.lo, I e.whole.hi]], 3, false⟩), (1, ⟨[.agg [I x4.now.lo, I x4.now.hi, I x4.cost, I x4.error]], 4, false⟩)], 2, 0⟩

def sd16 (e : S_Estate) (i4 : Nat) (x4 : S_Item) : St := ⟨104, [(2, B false), (87, B true), (86, .tup []), (85, .tup []), (84, .tup []), (83, B true), (82, B true), (81, B true), (80, I x4.error), (79, .lref 1 0 4 3), (78, B false), (77, B false), (76, B false), (75, I x4.cost), (74, .lref 1 0 4 2), (73, B false), (72, B false), (71, B false), (70, I x4.cost), (69, .lref 1 0 4 2), (68, B false), (67, B false), (66, B false), (65, I x4.now.hi), (64, .lref 1 0 4 1), (63, .lref 1 0 4 0), (62, B false), (61, B false), (60, B false), (59, I x4.now.hi), (58, .lref 1 0 4 1), (57, .lref 1 0 4 0), (56, I x4.now.lo), (55, .lref 1 0 4 0), (54, .lref 1 0 4 0), (53, B false), (52, B false), (51, I x4.now.lo), (50, .lref 1 0 4 0), (49, .lref 1 0 4 0), (4, .lref 1 0 4 0), (48, .agg [I x4.now.lo, I x4.now.hi, I x4.cost, I x4.error]), (47, .ptr (.agg [I x4.now.lo, I x4.now.hi, I x4.cost, I x4.error])), (46, I ((i4 : Nat) : Int)), (45, .sl e.items.nl (e.items.l.map S_Item.D) (zsl e.items.nl 4) none), (44, .lref 0 0 3 0), (41, B true), (40, I ((e.items.l.length : Nat) : Int)), (39, .sl e.items.nl (e.items.l.map S_Item.D) (zsl e.items.nl 4) none), (38, .lref 0 0 3 0), (37, I ((i4 : Nat) : Int)), (1, .lref 0 0 3 0), (3, I ((i4 : Nat) : Int))], [(0, ⟨[.agg [.sl e.items.nl (e.items.l.map S_Item.D) (zsl e.items.nl 4) none, I e.whole.lo, I e.whole.hi]], 3, false⟩), (1, ⟨[.agg [I x4.now.lo, I x4.now.hi, I x4.cost, I x4.error]], 4, false⟩)], 2, 0⟩

def sd17 (e : S_Estate) (i4 : Nat) (x4 : S_Item) : St := ⟨104, [(2, B false), (87, B true), (86, B true), (85, I x4.error), (84, .lref 1 0 4 3), (83, B false), (82, B false), (81, B false), (80, I x4.error), (79, .lref 1 0 4 3), (78, B false), (77, B false), (76, B false), (75, I x4.cost), (74, .lref 1 0 4 2), (73, B false), (72, B false), (71, B false), (70, I x4.cost), (69, .lref 1 0 4 2), (68, B false), (67, B false), (66, B false), (65, I x4.now.hi), (64, .lref 1 0 4 1), (63, .lref 1 0 4 0), (62, B false), (61, B false), (60, B false), (59, I x4.now.hi), (58, .lref 1 0 4 1), (57, .lref 1 0 4 0), (56, I x4.now.lo), (55, .lref 1 0 4 0), (54, .lref 1 0 4 0), (53, B false), (52, B false), (51, I x4.now.lo), (50, .lref 1 0 4 0), (49, .lref 1 0 4 0), (4, .lref 1 0 4 0), (48, .agg [I x4.now.lo, I x4.now.hi, I x4.cost, I x4.error]), (47, .ptr (.agg [I x4.now.lo, I x4.now.hi, I x4.cost, I x4.error])), (46, I ((i4 : Nat) : Int)), (45, .sl e.items.nl (e.items.l.map S_Item.D) (zsl e.items.nl 4) none), (44, .lref 0 0 3 0), (41, B true), (40, I ((e.items.l.length : Nat) : Int)), (39, .sl e.items.nl (e.items.l.map S_Item.D) (zsl e.items.nl 4) none), (38, .lref 0 0 3 0), (37, I ((i4 : Nat) : Int)), (1, .lref 0 0 3 0), (3, I ((i4 : Nat) : Int))], [(0, ⟨[.agg [.sl e.items.nl (e.items.l.map S_Item.D) (zsl e.items.nl 4) none, I e.whole.lo, I e.whole.hi]], 3, false⟩), (1, ⟨[.agg [I x4.now.lo, I x4.now.hi, I x4.cost, I x4.error]], 4, false⟩)], 2, 0⟩

theorem T_r_Valid (e : S_Estate) : (lim cfg).pure 19 [S_Estate.D e] = some (B (zV e)) := by
  unfold zV
  cases h1 : decide (((e.items.l.length : Nat) : Int) < 1) with
  | true =>
    have g1 := of_decide_eq_true h1
    exact zk [.rw 8 (I ((e.items.l.length : Nat) : Int)), .dec true] (And.intro h1 (And.intro (zu S_Item.D e.items) trivial)) (by kernel_rfl)
  | false =>
    have g1 := of_decide_eq_false h1
    cases h2 : decide (((e.items.l.length : Nat) : Int) > 12) with
    | true =>
      have g2 := of_decide_eq_true h2
      exact zk [.rw 8 (I ((e.items.l.length : Nat) : Int)), .dec false, .rw 13 (I ((e.items.l.length : Nat) : Int)), .dec true] (And.intro h2 (And.intro (zu S_Item.D e.items) (And.intro h1 (And.intro (zu S_Item.D e.items) trivial)))) (by kernel_rfl)
    | false =>
      have g2 := of_decide_eq_false h2
      cases h3 : decide (e.whole.lo < 0) with
      | true =>
        have g3 := of_decide_eq_true h3
        exact zk [.rw 8 (I ((e.items.l.length : Nat) : Int)), .dec false, .rw 13 (I ((e.items.l.length : Nat) : Int)), .dec false, .dec true] (And.intro h3 (And.intro h2 (And.intro (zu S_Item.D e.items) (And.intro h1 (And.intro (zu S_Item.D e.items) trivial))))) (by kernel_rfl)
      | false =>
        have g3 := of_decide_eq_false h3
        cases h4 : decide (e.whole.lo > e.whole.hi) with
        | true =>
          have g4 := of_decide_eq_true h4
          exact zk ((r_Valid_o1 e) ++ [.dec true]) (And.intro h4 (And.intro h3 (And.intro h2 (And.intro (zu S_Item.D e.items) (And.intro h1 (And.intro (zu S_Item.D e.items) trivial)))))) (by kernel_rfl)
        | false =>
          have g4 := of_decide_eq_false h4
          cases h5 : decide (e.whole.hi > 17179869184) with
          | true =>
            have g5 := of_decide_eq_true h5
            exact zk ((r_Valid_o1 e) ++ [.dec false, .dec true]) (And.intro h5 (And.intro h4 (And.intro h3 (And.intro h2 (And.intro (zu S_Item.D e.items) (And.intro h1 (And.intro (zu S_Item.D e.items) trivial))))))) (by kernel_rfl)
          | false =>
            have g5 := of_decide_eq_false h5
            cases h20 : r_Valid_4 e.items.l 0 with
            | x0 =>
              try dsimp only
              have p1 := (po_lr (q := lr_r_Valid_4 e) (lp_r_Valid_4 e e.items.l 0 (List.drop_zero) (Nat.zero_le _) (by omega)) h20)
              cases h21 : decide (((r_All e).lo) ≤ e.whole.hi) with
              | true =>
                have g21 := of_decide_eq_true h21
                cases h22 : decide (((r_All e).hi) ≥ e.whole.lo) with
                | true =>
                  have g22 := of_decide_eq_true h22
                  exact zk ((r_Valid_o1 e) ++ [.dec false, .dec false, .loop (.exit 0) (sd10 e), .pure (.agg [I ((r_All e).lo), I ((r_All e).hi)]), .dec true, .dec true]) (And.intro h22 (And.intro h21 (And.intro (T_r_All e (by omega)) (And.intro p1 (And.intro h5 (And.intro h4 (And.intro h3 (And.intro h2 (And.intro (zu S_Item.D e.items) (And.intro h1 (And.intro (zu S_Item.D e.items) trivial))))))))))) (by kernel_rfl)
                | false =>
                  have g22 := of_decide_eq_false h22
                  exact zk ((r_Valid_o1 e) ++ [.dec false, .dec false, .loop (.exit 0) (sd10 e), .pure (.agg [I ((r_All e).lo), I ((r_All e).hi)]), .dec true, .dec false]) (And.intro h22 (And.intro h21 (And.intro (T_r_All e (by omega)) (And.intro p1 (And.intro h5 (And.intro h4 (And.intro h3 (And.intro h2 (And.intro (zu S_Item.D e.items) (And.intro h1 (And.intro (zu S_Item.D e.items) trivial))))))))))) (by kernel_rfl)
              | false =>
                have g21 := of_decide_eq_false h21
                exact zk ((r_Valid_o1 e) ++ [.dec false, .dec false, .loop (.exit 0) (sd10 e), .pure (.agg [I ((r_All e).lo), I ((r_All e).hi)]), .dec false]) (And.intro h21 (And.intro (T_r_All e (by omega)) (And.intro p1 (And.intro h5 (And.intro h4 (And.intro h3 (And.intro h2 (And.intro (zu S_Item.D e.items) (And.intro h1 (And.intro (zu S_Item.D e.items) trivial)))))))))) (by kernel_rfl)
            | x1 i4 x4 =>
              try dsimp only
              exact zk ((r_Valid_o1 e) ++ [.dec false, .dec false, .loop .ret (sd11 e i4 x4)]) (And.intro (po_lr (q := lr_r_Valid_4 e) (lp_r_Valid_4 e e.items.l 0 (List.drop_zero) (Nat.zero_le _) (by omega)) h20) (And.intro h5 (And.intro h4 (And.intro h3 (And.intro h2 (And.intro (zu S_Item.D e.items) (And.intro h1 (And.intro (zu S_Item.D e.items) trivial)))))))) (by kernel_rfl)
            | x2 i4 x4 =>
              try dsimp only
              exact zk ((r_Valid_o1 e) ++ [.dec false, .dec false, .loop .ret (sd12 e i4 x4)]) (And.intro (po_lr (q := lr_r_Valid_4 e) (lp_r_Valid_4 e e.items.l 0 (List.drop_zero) (Nat.zero_le _) (by omega)) h20) (And.intro h5 (And.intro h4 (And.intro h3 (And.intro h2 (And.intro (zu S_Item.D e.items) (And.intro h1 (And.intro (zu S_Item.D e.items) trivial)))))))) (by kernel_rfl)
            | x3 i4 x4 =>
              try dsimp only
              exact zk ((r_Valid_o1 e) ++ [.dec false, .dec false, .loop .ret (sd13 e i4 x4)]) (And.intro (po_lr (q := lr_r_Valid_4 e) (lp_r_Valid_4 e e.items.l 0 (List.drop_zero) (Nat.zero_le _) (by omega)) h20) (And.intro h5 (And.intro h4 (And.intro h3 (And.intro h2 (And.intro (zu S_Item.D e.items) (And.intro h1 (And.intro (zu S_Item.D e.items) trivial)))))))) (by kernel_rfl)
            | x4 i4 x4 =>
              try dsimp only
              exact zk ((r_Valid_o1 e) ++ [.dec false, .dec false, .loop .ret (sd14 e i4 x4)]) (And.intro (po_lr (q := lr_r_Valid_4 e) (lp_r_Valid_4 e e.items.l 0 (List.drop_zero) (Nat.zero_le _) (by omega)) h20) (And.intro h5 (And.intro h4 (And.intro h3 (And.intro h2 (And.intro (zu S_Item.D e.items) (And.intro h1 (And.intro (zu S_Item.D e.items) trivial)))))))) (by kernel_rfl)
            | x5 i4 x4 =>
              try dsimp only
              exact zk ((r_Valid_o1 e) ++ [.dec false, .dec false, .loop .ret (sd15 e i4 x4)]) (And.intro (po_lr (q := lr_r_Valid_4 e) (lp_r_Valid_4 e e.items.l 0 (List.drop_zero) (Nat.zero_le _) (by omega)) h20) (And.intro h5 (And.intro h4 (And.intro h3 (And.intro h2 (And.intro (zu S_Item.D e.items) (And.intro h1 (And.intro (zu S_Item.D e.items) trivial)))))))) (by kernel_rfl)
            | x6 i4 x4 =>
              try dsimp only
              exact zk ((r_Valid_o1 e) ++ [.dec false, .dec false, .loop .ret (sd16 e i4 x4)]) (And.intro (po_lr (q := lr_r_Valid_4 e) (lp_r_Valid_4 e e.items.l 0 (List.drop_zero) (Nat.zero_le _) (by omega)) h20) (And.intro h5 (And.intro h4 (And.intro h3 (And.intro h2 (And.intro (zu S_Item.D e.items) (And.intro h1 (And.intro (zu S_Item.D e.items) trivial)))))))) (by kernel_rfl)
            | x7 i4 x4 =>
              try dsimp only
              exact zk ((r_Valid_o1 e) ++ [.dec false, .dec false, .loop .ret (sd17 e i4 x4)]) (And.intro (po_lr (q := lr_r_Valid_4 e) (lp_r_Valid_4 e e.items.l 0 (List.drop_zero) (Nat.zero_le _) (by omega)) h20) (And.intro h5 (And.intro h4 (And.intro h3 (And.intro h2 (And.intro (zu S_Item.D e.items) (And.intro h1 (And.intro (zu S_Item.D e.items) trivial)))))))) (by kernel_rfl)

theorem valid_len {e : S_Estate} (h : zV e = true) : 1 ≤ e.items.l.length ∧ e.items.l.length ≤ 12 := by
  unfold zV at h
  simp only [Bool.cond_decide] at h
  split at h
  · cases h
  split at h
  · cases h
  omega

inductive LR_l_fill_4 where
  | x0 (v4_0 : Int)
instance : Inhabited LR_l_fill_4 := ⟨.x0 default⟩
def l_fill_4 : List S_Item → Int → LR_l_fill_4
  | [], v4_0 => .x0 v4_0
  | x4 :: rest4, v4_0 =>
    l_fill_4 rest4 (w64 (v4_0 - x4.now.lo))
inductive LR_l_fill_9 where
  | x0 (va9_0 : List Int) (va9_1 : Int)
  | x1
instance : Inhabited LR_l_fill_9 := ⟨.x0 default default⟩
def l_fill_9a (v4_0 : Int) : List S_Item → (List Int) → Int → LR_l_fill_9
  | [], va9_0, va9_1 => .x0 va9_0 va9_1
  | x9 :: rest9, va9_0, va9_1 =>
    l_fill_9a v4_0 rest9 (va9_0 ++ [w64 (x9.now.lo + (imin (ye va9_1 0) (w64 (x9.now.hi - x9.now.lo))))]) (w64 (va9_1 - (imin (ye va9_1 0) (w64 (x9.now.hi - x9.now.lo)))))
def l_fill_9 (v4_0 : Int) : List S_Item → LR_l_fill_9
  | [] => .x1
  | x9 :: rest9 =>
    l_fill_9a v4_0 rest9 [w64 (x9.now.lo + (imin (ye v4_0 0) (w64 (x9.now.hi - x9.now.lo))))] (w64 (v4_0 - (imin (ye v4_0 0) (w64 (x9.now.hi - x9.now.lo)))))
def l_fill (items : GS S_Item) (sum : Int) : (GS Int) :=
  match l_fill_4 items.l sum with
  | .x0 v4_0 =>
    match l_fill_9 v4_0 items.l with
    | .x0 va9_0 va9_1 =>
      GS.some va9_0
    | .x1 =>
      GS.nil

theorem zo {items : GS S_Item} {sum : Int} : (l_fill items sum).l.length = items.l.length := by
  have key : ∀ (l : List S_Item) (v : List Int) (n : Int) (z : Int), ∃ a b, l_fill_9a z l v n = .x0 a b ∧ a.length = v.length + l.length := by
    intro l
    induction l with
    | nil => intro v n z; exact ⟨v, n, rfl, by simp⟩
    | cons x l ih => intro v n z; obtain ⟨a, b, h1, h2⟩ := ih _ _ z; exact ⟨a, b, h1, by rw [h2]; simp; omega⟩
  unfold l_fill
  split
  cases hl : items.l with
  | nil => rfl
  | cons x l =>
    simp only [l_fill_9]
    obtain ⟨a, b, h, h2⟩ := key l [w64 (x.now.lo + (imin (ye _ 0) (w64 (x.now.hi - x.now.lo))))] (w64 (_ - (imin (ye _ 0) (w64 (x.now.hi - x.now.lo))))) _
    rw [h]
    simp [GS.some, h2]
    omega
end Go.VS

/-
  Orders: what an estate's functions come to, in plain numbers. (A text of this claim's own; nothing of it is trusted.)
-/
namespace Go.VS
def sLo : List S_Item → Int
  | [] => 0
  | x :: l => x.now.lo + sLo l
def sHi : List S_Item → Int
  | [] => 0
  | x :: l => x.now.hi + sHi l
def OkItem (x : S_Item) : Prop := 0 ≤ x.now.lo ∧ x.now.lo ≤ x.now.hi ∧ x.now.hi ≤ 1073741824 ∧ 0 ≤ x.cost ∧ x.cost ≤ 10000 ∧ 0 ≤ x.error ∧ x.error ≤ 1048576
def OkSpans (l : List S_Item) : Prop := ∀ x ∈ l, 0 ≤ x.now.lo ∧ x.now.lo ≤ x.now.hi ∧ x.now.hi ≤ 1073741824
structure V (e : S_Estate) : Prop where
  n1 : 1 ≤ e.items.l.length
  n2 : e.items.l.length ≤ 12
  w0 : 0 ≤ e.whole.lo
  w1 : e.whole.lo ≤ e.whole.hi
  w2 : e.whole.hi ≤ 17179869184
  it : ∀ x ∈ e.items.l, OkItem x
  lo : sLo e.items.l ≤ e.whole.hi
  hi : e.whole.lo ≤ sHi e.items.l
theorem okSpans_of {l : List S_Item} (h : ∀ x ∈ l, OkItem x) : OkSpans l := fun x hx => ⟨(h x hx).1, (h x hx).2.1, (h x hx).2.2.1⟩
theorem V.sp {e : S_Estate} (h : V e) : OkSpans e.items.l := okSpans_of h.it
theorem sums_bd {l : List S_Item} (h : OkSpans l) : 0 ≤ sLo l ∧ sLo l ≤ sHi l ∧ sHi l ≤ 1073741824 * (l.length : Int) := by
  induction l with
  | nil => simp [sLo, sHi]
  | cons x l ih =>
    have h1 := ih fun y hy => h y (List.mem_cons_of_mem _ hy)
    have h2 := h x List.mem_cons_self
    simp only [sLo, sHi, List.length_cons]
    omega
theorem all2_eq {l : List S_Item} (h : OkSpans l) : ∀ (a b : Int), 0 ≤ a → 0 ≤ b → a + 1073741824 * (l.length : Int) ≤ 4611686018427387904 → b + 1073741824 * (l.length : Int) ≤ 4611686018427387904 → orders_all_2 l a b = .x0 (a + sLo l) (b + sHi l) := by
  induction l with
  | nil => intro a b _ _ _ _; simp [orders_all_2, sLo, sHi]
  | cons x l ih =>
    intro a b h1 h2 h3 h4
    have hx := h x List.mem_cons_self
    simp only [List.length_cons] at h3 h4
    unfold orders_all_2
    rw [yi (by omega) (by omega), yi (by omega) (by omega), ih (fun y hy => h y (List.mem_cons_of_mem _ hy)) _ _ (by omega) (by omega) (by omega) (by omega)]
    simp only [sLo, sHi]
    congr 1 <;> omega
theorem rall2_eq (l : List S_Item) : ∀ (a b : Int), ∃ c d, r_All_3 l a b = .x0 c d ∧ orders_all_2 l a b = .x0 c d := by
  induction l with
  | nil => intro a b; exact ⟨a, b, rfl, rfl⟩
  | cons x l ih => intro a b; exact ih _ _
theorem rall_eq (e : S_Estate) : r_All e = zQ e := by
  obtain ⟨c, d, h1, h2⟩ := rall2_eq e.items.l 0 0
  unfold r_All zQ
  rw [h1, h2]
theorem all_eq {e : S_Estate} (h : OkSpans e.items.l) (hn : e.items.l.length ≤ 12) : zQ e = ⟨sLo e.items.l, sHi e.items.l⟩ := by
  unfold zQ
  rw [all2_eq h 0 0 (by omega) (by omega) (by omega) (by omega)]
  simp
theorem span_iff {x : S_Span} {m : Int} : orders_span x m = true ↔ 0 ≤ x.lo ∧ x.lo ≤ x.hi ∧ x.hi ≤ m := by
  unfold orders_span
  simp only [Bool.cond_decide]
  split
  · split
    · split
      · simp; omega
      · simp; omega
    · simp; omega
  · simp; omega
theorem within_iff {n lo hi : Int} : zO n lo hi = true ↔ lo ≤ n ∧ n ≤ hi := by simp [within_eq]
theorem common_eq (x y : S_Span) : y6 x y = (⟨max x.lo y.lo, min x.hi y.hi⟩, decide (max x.lo y.lo ≤ min x.hi y.hi)) := by
  unfold y6
  rw [imax_eq, imin_eq]
  cases decide (max x.lo y.lo ≤ min x.hi y.hi) <;> rfl
theorem check4_iff {l : List S_Item} {i : Nat} : orders_Check_4 l i = .x0 ↔ ∀ x ∈ l, OkItem x := by
  induction l generalizing i with
  | nil => simp [orders_Check_4]
  | cons x l ih =>
    unfold orders_Check_4
    simp only [List.forall_mem_cons]
    cases h1 : orders_span x.now 1073741824 with
    | false =>
      simp only [cond_false]
      constructor
      · intro h; cases h
      · rintro ⟨h, _⟩; rw [span_iff.2 ⟨h.1, h.2.1, h.2.2.1⟩] at h1; cases h1
    | true =>
      cases h2 : zO x.cost 0 10000 with
      | false =>
        simp only [cond_false, cond_true]
        constructor
        · intro h; cases h
        · rintro ⟨h, _⟩; rw [within_iff.2 ⟨h.2.2.2.1, h.2.2.2.2.1⟩] at h2; cases h2
      | true =>
        cases h3 : zO x.error 0 1048576 with
        | false =>
          simp only [cond_false, cond_true]
          constructor
          · intro h; cases h
          · rintro ⟨h, _⟩; rw [within_iff.2 ⟨h.2.2.2.2.2.1, h.2.2.2.2.2.2⟩] at h3; cases h3
        | true =>
          simp only [cond_true, ih]
          have a1 := span_iff.1 h1
          have a2 := within_iff.1 h2
          have a3 := within_iff.1 h3
          exact ⟨fun h => ⟨⟨a1.1, a1.2.1, a1.2.2, a2.1, a2.2, a3.1, a3.2⟩, h⟩, fun h => h.2⟩
theorem check_cases (e : S_Estate) : zy e = 0 ∨ zy e = 80 := by
  unfold zy
  cases zO ((e.items.l.length : Nat) : Int) 1 12 <;> cases orders_span e.whole 17179869184 <;> simp only [cond_true, cond_false] <;> try (exact .inr trivial)
  split <;> first | (exact .inr rfl) | skip
  cases (y6 (zQ e) e.whole).2 <;> simp
theorem check_iff {e : S_Estate} : zy e = 0 ↔ V e := by
  unfold zy
  cases h1 : zO ((e.items.l.length : Nat) : Int) 1 12 with
  | false =>
    simp only [cond_false]
    refine ⟨fun h => by omega, fun h => ?_⟩
    rw [within_iff.2 ⟨by have := h.n1; omega, by have := h.n2; omega⟩] at h1; cases h1
  | true =>
    have a1 := within_iff.1 h1
    cases h2 : orders_span e.whole 17179869184 with
    | false =>
      simp only [cond_false, cond_true]
      refine ⟨fun h => by omega, fun h => ?_⟩
      rw [span_iff.2 ⟨h.w0, h.w1, h.w2⟩] at h2; cases h2
    | true =>
      have a2 := span_iff.1 h2
      simp only [cond_true]
      by_cases h3 : orders_Check_4 e.items.l 0 = .x0
      · have a3 := check4_iff.1 h3
        rw [h3, common_eq, all_eq (okSpans_of a3) (by omega)]
        simp only []
        have hb := sums_bd (okSpans_of a3)
        by_cases h4 : max (sLo e.items.l) e.whole.lo ≤ min (sHi e.items.l) e.whole.hi
        · simp only [h4, decide_true, cond_true, true_iff]
          exact ⟨by omega, by omega, a2.1, a2.2.1, a2.2.2, a3, by omega, by omega⟩
        · simp only [h4, decide_false, cond_false]
          refine ⟨fun h => by omega, fun h => absurd ?_ h4⟩
          have := h.lo; have := h.hi; have := h.w1
          omega
      · constructor
        · intro h
          exfalso
          split at h
          · rename_i h5; exact h3 h5
          all_goals omega
        · intro h; exact absurd (check4_iff.2 h.it) h3
theorem valid4_iff {l : List S_Item} {i : Nat} : r_Valid_4 l i = .x0 ↔ ∀ x ∈ l, OkItem x := by
  induction l generalizing i with
  | nil => simp [r_Valid_4]
  | cons x l ih =>
    unfold r_Valid_4
    simp only [List.forall_mem_cons, Bool.cond_decide, OkItem]
    repeat' split
    all_goals first
      | (constructor
         · intro h; cases h
         · intro h; exfalso; omega)
      | (rw [ih]
         constructor
         · intro h; exact ⟨by omega, h⟩
         · intro h; exact h.2)
theorem zI {e : S_Estate} : zV e = true ↔ V e := by
  unfold zV
  simp only [Bool.cond_decide]
  constructor
  · intro h
    split at h
    · cases h
    split at h
    · cases h
    split at h
    · cases h
    split at h
    · cases h
    split at h
    · cases h
    split at h
    · rename_i h1 h2 h3 h4 h5 h6
      have a3 := valid4_iff.1 h6
      rw [rall_eq, all_eq (okSpans_of a3) (by omega)] at h
      simp only [] at h
      split at h
      · split at h
        · exact ⟨by omega, by omega, by omega, by omega, by omega, a3, by omega, by omega⟩
        · cases h
      · cases h
    all_goals cases h
  · intro h
    have := h.n1; have := h.n2; have := h.w0; have := h.w1; have := h.w2
    rw [if_neg (by omega), if_neg (by omega), if_neg (by omega), if_neg (by omega), if_neg (by omega), valid4_iff.2 h.it]
    simp only [rall_eq, all_eq h.sp h.n2]
    rw [if_pos h.lo, if_pos h.hi]
theorem check_valid (e : S_Estate) : zy e = if zV e then 0 else 80 := by
  rcases check_cases e with h | h
  · rw [if_pos (zI.2 (check_iff.1 h)), h]
  · rw [if_neg (fun hv => by have := check_iff.2 (zI.1 hv); omega), h]
/-! ### allowed areas -/
def tot : List Int → Int
  | [] => 0
  | x :: l => x + tot l
/-- Areas within the items' spans. -/
def In : List S_Item → List Int → Prop
  | [], [] => True
  | x :: l, b :: a => (x.now.lo ≤ b ∧ b ≤ x.now.hi) ∧ In l a
  | _, _ => False
theorem In.len : ∀ {l : List S_Item} {a : List Int}, In l a → a.length = l.length
  | [], [], _ => rfl
  | [], _ :: _, h => h.elim
  | _ :: _, [], h => h.elim
  | x :: l, b :: a, h => by simp only [List.length_cons, h.2.len]
theorem In.bd : ∀ {l : List S_Item} {a : List Int}, In l a → sLo l ≤ tot a ∧ tot a ≤ sHi l
  | [], [], _ => ⟨Int.le_refl _, Int.le_refl _⟩
  | [], _ :: _, h => h.elim
  | _ :: _, [], h => h.elim
  | x :: l, b :: a, h => by have := h.2.bd; have := h.1; simp only [sLo, sHi, tot]; omega
/-- What the sum of all can be. -/
def loS (e : S_Estate) : Int := max (sLo e.items.l) e.whole.lo
def hiS (e : S_Estate) : Int := min (sHi e.items.l) e.whole.hi
theorem loS_hiS {e : S_Estate} (h : V e) : loS e ≤ hiS e := by
  have hb := sums_bd h.sp
  have := h.lo; have := h.hi; have := h.w1
  unfold loS hiS
  omega
theorem at_mem {α : Type} [Inhabited α] {s : GS α} {i : Int} (h0 : 0 ≤ i) (h1 : i < (s.l.length : Int)) : s.at i ∈ s.l := by
  have hlt : i.toNat < s.l.length := by omega
  rw [GS.at, List.getD_eq_getElem?_getD, List.getElem?_eq_getElem hlt]
  exact List.getElem_mem hlt
end Go.VS

namespace Go.VS
open Go Go.Proofs
set_option maxHeartbeats 0
set_option linter.unusedSimpArgs false
set_option linter.unusedVariables false
def cmp_isNaN (a0 : Int) : Bool :=
  bif (a0 != a0) then
    true
  else
    false

theorem zR (a0 : Int) : (lim cfg).pure 111 [I a0] = some (B (cmp_isNaN a0)) := by
  unfold cmp_isNaN
  cases h1 : (a0 != a0) with
  | true =>
    have g1 := bne_true h1
    exact zk [.dec true] (And.intro h1 trivial) (by kernel_rfl)
  | false =>
    have g1 := bne_false h1
    exact zk [.dec false] (And.intro h1 trivial) (by kernel_rfl)

def cmp_Less (a0 : Int) (a1 : Int) : Bool :=
  bif (cmp_isNaN a0) then
    bif (cmp_isNaN a1) then
      bif decide (a0 < a1) then
        true
      else
        false
    else
      true
  else
    bif decide (a0 < a1) then
      true
    else
      false

theorem T_cmp_Less (a0 : Int) (a1 : Int) : (lim cfg).pure 106 [I a0, I a1] = some (B (cmp_Less a0 a1)) := by
  unfold cmp_Less
  cases h1 : (cmp_isNaN a0) with
  | true =>
    cases h2 : (cmp_isNaN a1) with
    | true =>
      cases h3 : decide (a0 < a1) with
      | true =>
        have g3 := of_decide_eq_true h3
        exact zk [.pure (B (cmp_isNaN a0)), .dec true, .pure (B (cmp_isNaN a1)), .dec true, .dec true] (And.intro h3 (And.intro h2 (And.intro (zR a1) (And.intro h1 (And.intro (zR a0) trivial))))) (by kernel_rfl)
      | false =>
        have g3 := of_decide_eq_false h3
        exact zk [.pure (B (cmp_isNaN a0)), .dec true, .pure (B (cmp_isNaN a1)), .dec true, .dec false] (And.intro h3 (And.intro h2 (And.intro (zR a1) (And.intro h1 (And.intro (zR a0) trivial))))) (by kernel_rfl)
    | false =>
      exact zk [.pure (B (cmp_isNaN a0)), .dec true, .pure (B (cmp_isNaN a1)), .dec false] (And.intro h2 (And.intro (zR a1) (And.intro h1 (And.intro (zR a0) trivial)))) (by kernel_rfl)
  | false =>
    cases h4 : decide (a0 < a1) with
    | true =>
      have g4 := of_decide_eq_true h4
      exact zk [.pure (B (cmp_isNaN a0)), .dec false, .dec true] (And.intro h4 (And.intro h1 (And.intro (zR a0) trivial))) (by kernel_rfl)
    | false =>
      have g4 := of_decide_eq_false h4
      exact zk [.pure (B (cmp_isNaN a0)), .dec false, .dec false] (And.intro h4 (And.intro h1 (And.intro (zR a0) trivial))) (by kernel_rfl)

def bl12 (n : Int) : Int := [0,1,2,2,3,3,3,3,4,4,4,4,4].getD n.toNat 0
theorem T_bl {n : Int} (h0 : 0 ≤ n) (h1 : n ≤ 12) : (lim cfg).pure 81 [.val (.int .u64 (IntKind.u64.wrap n))] = some (I (bl12 n)) := by
  have : n = 0 ∨ n = 1 ∨ n = 2 ∨ n = 3 ∨ n = 4 ∨ n = 5 ∨ n = 6 ∨ n = 7 ∨ n = 8 ∨ n = 9 ∨ n = 10 ∨ n = 11 ∨ n = 12 := by omega
  rcases this with rfl | rfl | rfl | rfl | rfl | rfl | rfl | rfl | rfl | rfl | rfl | rfl | rfl <;> exact lim_pure.2 ⟨10, by kernel_rfl⟩

noncomputable def lp100_4 : Code := subC [1, 0, 0, 1, 0, 0, 1, 0, 0] (bodyC Try.f100)

def sd58 (l : List Int) (q4_0 : Int) (v4_0 : Int) (v4_1 : List Int) : St := ⟨49, [(7, I (w64 (v4_0 - 1))), (32, I (w64 (v4_0 - 1))), (31, I v4_0), (48, .lref 1 ((w64 (v4_0 - 1)).toNat) 1 0), (47, .lref 1 ((v4_0).toNat) 1 0), (46, I (v4_1.getD ((v4_0).toNat) default)), (45, .lref 1 ((v4_0).toNat) 1 0), (44, I v4_0), (43, .lsl 1 0 l.length 1 (some 4)), (42, I (v4_1.getD ((w64 (v4_0 - 1)).toNat) default)), (41, .lref 1 ((w64 (v4_0 - 1)).toNat) 1 0), (40, I (w64 (v4_0 - 1))), (39, I v4_0), (38, .lsl 1 0 l.length 1 (some 4)), (37, I (w64 (v4_0 - 1))), (36, I v4_0), (35, .lsl 1 0 l.length 1 (some 4)), (34, I v4_0), (33, .lsl 1 0 l.length 1 (some 4)), (30, B true), (29, B true), (28, I (v4_1.getD ((w64 (v4_0 - 1)).toNat) default)), (27, .lref 1 ((w64 (v4_0 - 1)).toNat) 1 0), (26, I (w64 (v4_0 - 1))), (25, I v4_0), (24, .lsl 1 0 l.length 1 (some 4)), (23, I (v4_1.getD ((v4_0).toNat) default)), (22, .lref 1 ((v4_0).toNat) 1 0), (21, I v4_0), (20, .lsl 1 0 l.length 1 (some 4)), (19, B true), (18, B true), (17, I 0), (16, I v4_0), (0, .lsl 1 0 l.length 1 (some 4)), (1, I 0), (2, I ((l.length : Nat) : Int)), (6, I q4_0), (7, I v4_0)], [(1, ⟨((v4_1.set ((v4_0).toNat) (v4_1.getD ((w64 (v4_0 - 1)).toNat) default)).set ((w64 (v4_0 - 1)).toNat) (v4_1.getD ((v4_0).toNat) default)).map I, 1, false⟩)], 2, 2⟩

inductive LR_isort4_4 where
  | x0 (v4_0 : Int) (v4_1 : List Int)
  | x1 (v4_0 : Int) (v4_1 : List Int)
  | out
instance : Inhabited LR_isort4_4 := ⟨.out⟩
def isort4_4 : Nat → Int → (List Int) → LR_isort4_4
  | 0, _, _ => .out
  | rest4 + 1, v4_0, v4_1 =>
    bif decide (v4_0 > 0) then
      bif (cmp_Less (v4_1.getD ((v4_0).toNat) default) (v4_1.getD ((w64 (v4_0 - 1)).toNat) default)) then
        isort4_4 rest4 (w64 (v4_0 - 1)) ((v4_1.set ((v4_0).toNat) (v4_1.getD ((w64 (v4_0 - 1)).toNat) default)).set ((w64 (v4_0 - 1)).toNat) (v4_1.getD ((v4_0).toNat) default))
      else
        .x0 v4_0 v4_1
    else
      .x1 v4_0 v4_1
def lr_isort4_4 (l : List Int) (q4_0 : Int) : LR_isort4_4 → Exit × St
  | .x0 v4_0 v4_1 => ((.exit 2), ⟨49, [(30, B false), (29, B false), (28, I (v4_1.getD ((w64 (v4_0 - 1)).toNat) default)), (27, .lref 1 ((w64 (v4_0 - 1)).toNat) 1 0), (26, I (w64 (v4_0 - 1))), (25, I v4_0), (24, .lsl 1 0 l.length 1 (some 4)), (23, I (v4_1.getD ((v4_0).toNat) default)), (22, .lref 1 ((v4_0).toNat) 1 0), (21, I v4_0), (20, .lsl 1 0 l.length 1 (some 4)), (19, B true), (18, B true), (17, I 0), (16, I v4_0), (0, .lsl 1 0 l.length 1 (some 4)), (1, I 0), (2, I ((l.length : Nat) : Int)), (6, I q4_0), (7, I v4_0)], [(1, ⟨v4_1.map I, 1, false⟩)], 2, 2⟩)
  | .x1 v4_0 v4_1 => ((.exit 2), ⟨49, [(30, B false), (29, .tup []), (28, .tup []), (27, .tup []), (26, .tup []), (25, .tup []), (24, .tup []), (23, .tup []), (22, .tup []), (21, .tup []), (20, .tup []), (19, B false), (18, B false), (17, I 0), (16, I v4_0), (0, .lsl 1 0 l.length 1 (some 4)), (1, I 0), (2, I ((l.length : Nat) : Int)), (6, I q4_0), (7, I v4_0)], [(1, ⟨v4_1.map I, 1, false⟩)], 2, 2⟩)
  | .out => (.normal, ⟨0, [], [], 0, 0⟩)
def iv_isort4_4 (l : List Int) (q4_0 : Int) : LR_isort4_4 → Prop
  | .x0 v4_0 v4_1 => (0 ≤ v4_0 ∧ v4_0 < ((l.length : Nat) : Int) ∧ l.length ≤ 12) ∧ (v4_1.length = l.length)
  | .x1 v4_0 v4_1 => (0 ≤ v4_0 ∧ v4_0 < ((l.length : Nat) : Int) ∧ l.length ≤ 12) ∧ (v4_1.length = l.length)
  | .out => True
def isort4_4_f_o1 (v4_0 : Int) (v4_1 : List Int) : List Ora := [.dec true, .op (some 22) ⟨.lref 1 ((v4_0).toNat) 1 0, [], [], 2⟩, .op (some 23) ⟨I (v4_1.getD ((v4_0).toNat) default), [], [1], 2⟩, .op (some 27) ⟨.lref 1 ((w64 (v4_0 - 1)).toNat) 1 0, [], [], 2⟩, .op (some 28) ⟨I (v4_1.getD ((w64 (v4_0 - 1)).toNat) default), [], [1], 2⟩, .pure (B (cmp_Less (v4_1.getD ((v4_0).toNat) default) (v4_1.getD ((w64 (v4_0 - 1)).toNat) default)))]
theorem lp_isort4_4 (l : List Int) (q4_0 : Int) : ∀ (rest4 : Nat) (v4_0 : Int) (v4_1 : List Int) (hf4 : isort4_4 rest4 v4_0 v4_1 ≠ .out) (hj : 0 ≤ v4_0 ∧ v4_0 < ((l.length : Nat) : Int) ∧ l.length ≤ 12) (hl4_v4_1 : v4_1.length = l.length), (lim cfg).loop 100 lp100_4 ⟨49, [(0, .lsl 1 0 l.length 1 (some 4)), (1, I 0), (2, I ((l.length : Nat) : Int)), (6, I q4_0), (7, I v4_0)], [(1, ⟨v4_1.map I, 1, false⟩)], 2, 2⟩ = some (lr_isort4_4 l q4_0 (isort4_4 rest4 v4_0 v4_1)) := by
  intro rest4
  induction rest4 with
  | zero =>
    intro v4_0 v4_1 hf4 hj hl4_v4_1
    exact absurd rfl hf4
  | succ rest4 ih =>
    intro v4_0 v4_1 hf4 hj hl4_v4_1
    unfold isort4_4 at hf4 ⊢
    revert hf4
    cases h8 : decide (v4_0 > 0) with
    | true =>
      have g8 := of_decide_eq_true h8
      have p1 := (idx_row (C := cfg) (nxt := 2) (t := 37) (ty := ty37) (te := ty3) (e := 3) (o := 1) (len := l.length) (sz := 1) (cap := (some 4)) (i := v4_0) (by kernel_rfl) rfl (by kernel_rfl) rfl (by omega) (by omega))
      have p2 := (load_row (C := cfg) (objs := [(1, ⟨v4_1.map I, 1, false⟩)]) (nxt := 2) (t := 3) (ty := ty3) (o := 1) (n := (v4_0).toNat) (sz := 1) (sub := 0) (ob := ⟨v4_1.map I, 1, false⟩) (e := I (v4_1.getD ((v4_0).toNat) default)) (d := I (v4_1.getD ((v4_0).toNat) default)) (by kernel_rfl) (by kernel_rfl) rfl (row_get (f := I) (by omega)) (by kernel_rfl))
      have p3 := (idx_row (C := cfg) (nxt := 2) (t := 37) (ty := ty37) (te := ty3) (e := 3) (o := 1) (len := l.length) (sz := 1) (cap := (some 4)) (i := w64 (v4_0 - 1)) (by kernel_rfl) rfl (by kernel_rfl) rfl (by simp only [List.length_append, List.length_cons, List.length_nil, zr] at * <;> omega) (by simp only [List.length_append, List.length_cons, List.length_nil, zr] at * <;> omega))
      have p4 := (load_row (C := cfg) (objs := [(1, ⟨v4_1.map I, 1, false⟩)]) (nxt := 2) (t := 3) (ty := ty3) (o := 1) (n := (w64 (v4_0 - 1)).toNat) (sz := 1) (sub := 0) (ob := ⟨v4_1.map I, 1, false⟩) (e := I (v4_1.getD ((w64 (v4_0 - 1)).toNat) default)) (d := I (v4_1.getD ((w64 (v4_0 - 1)).toNat) default)) (by kernel_rfl) (by kernel_rfl) rfl (row_get (f := I) (by simp only [List.length_append, List.length_cons, List.length_nil, zr] at * <;> omega)) (by kernel_rfl))
      have p5 := (T_cmp_Less (v4_1.getD ((v4_0).toNat) default) (v4_1.getD ((w64 (v4_0 - 1)).toNat) default))
      cases h9 : (cmp_Less (v4_1.getD ((v4_0).toNat) default) (v4_1.getD ((w64 (v4_0 - 1)).toNat) default)) with
      | true =>
        intro hf4
        exact po_turn' (ks := [0, 1, 2, 6, 7]) (st' := (sd58 l q4_0 v4_0 v4_1)) ((isort4_4_f_o1 v4_0 v4_1) ++ [.dec true, .op (some 41) ⟨.lref 1 ((w64 (v4_0 - 1)).toNat) 1 0, [], [], 2⟩, .op (some 42) ⟨I (v4_1.getD ((w64 (v4_0 - 1)).toNat) default), [], [1], 2⟩, .op (some 45) ⟨.lref 1 ((v4_0).toNat) 1 0, [], [], 2⟩, .op (some 46) ⟨I (v4_1.getD ((v4_0).toNat) default), [], [1], 2⟩, .op (some 47) ⟨.lref 1 ((v4_0).toNat) 1 0, [], [], 2⟩, .stS 1 ⟨.tup [], [(1, some ⟨(v4_1.set ((v4_0).toNat) (v4_1.getD ((w64 (v4_0 - 1)).toNat) default)).map I, 1, false⟩)], [1], 2⟩, .op (some 48) ⟨.lref 1 ((w64 (v4_0 - 1)).toNat) 1 0, [], [], 2⟩, .stS 1 ⟨.tup [], [(1, some ⟨((v4_1.set ((v4_0).toNat) (v4_1.getD ((w64 (v4_0 - 1)).toNat) default)).set ((w64 (v4_0 - 1)).toNat) (v4_1.getD ((v4_0).toNat) default)).map I, 1, false⟩)], [1], 2⟩]) (And.intro (store_row (C := cfg) (objs := [(1, ⟨(v4_1.set ((v4_0).toNat) (v4_1.getD ((w64 (v4_0 - 1)).toNat) default)).map I, 1, false⟩)]) (nxt := 2) (t := 3) (ty := ty3) (o := 1) (n := (w64 (v4_0 - 1)).toNat) (sz := 1) (sub := 0) (els := (v4_1.set ((v4_0).toNat) (v4_1.getD ((w64 (v4_0 - 1)).toNat) default)).map I) (els' := ((v4_1.set ((v4_0).toNat) (v4_1.getD ((w64 (v4_0 - 1)).toNat) default)).set ((w64 (v4_0 - 1)).toNat) (v4_1.getD ((v4_0).toNat) default)).map I) (e := I ((v4_1.set ((v4_0).toNat) (v4_1.getD ((w64 (v4_0 - 1)).toNat) default)).getD ((w64 (v4_0 - 1)).toNat) default)) (e' := I (v4_1.getD ((v4_0).toNat) default)) (v := I (v4_1.getD ((v4_0).toNat) default)) (by kernel_rfl) (by kernel_rfl) (row_get (f := I) (by simp only [zo, GS.some_l, List.length_set, List.length_append, List.length_cons, List.length_nil, zr] at * <;> first | with_reducible assumption | omega)) rfl (by kernel_rfl) rfl (by kernel_rfl) (row_set (f := I))) (And.intro (idx_row (C := cfg) (nxt := 2) (t := 37) (ty := ty37) (te := ty3) (e := 3) (o := 1) (len := l.length) (sz := 1) (cap := (some 4)) (i := w64 (v4_0 - 1)) (by kernel_rfl) rfl (by kernel_rfl) rfl (by simp only [List.length_append, List.length_cons, List.length_nil, zr] at * <;> omega) (by simp only [List.length_append, List.length_cons, List.length_nil, zr] at * <;> omega)) (And.intro (store_row (C := cfg) (objs := [(1, ⟨v4_1.map I, 1, false⟩)]) (nxt := 2) (t := 3) (ty := ty3) (o := 1) (n := (v4_0).toNat) (sz := 1) (sub := 0) (els := v4_1.map I) (els' := (v4_1.set ((v4_0).toNat) (v4_1.getD ((w64 (v4_0 - 1)).toNat) default)).map I) (e := I (v4_1.getD ((v4_0).toNat) default)) (e' := I (v4_1.getD ((w64 (v4_0 - 1)).toNat) default)) (v := I (v4_1.getD ((w64 (v4_0 - 1)).toNat) default)) (by kernel_rfl) (by kernel_rfl) (row_get (f := I) (by omega)) rfl (by kernel_rfl) rfl (by kernel_rfl) (row_set (f := I))) (And.intro (idx_row (C := cfg) (nxt := 2) (t := 37) (ty := ty37) (te := ty3) (e := 3) (o := 1) (len := l.length) (sz := 1) (cap := (some 4)) (i := v4_0) (by kernel_rfl) rfl (by kernel_rfl) rfl (by omega) (by omega)) (And.intro (load_row (C := cfg) (objs := [(1, ⟨v4_1.map I, 1, false⟩)]) (nxt := 2) (t := 3) (ty := ty3) (o := 1) (n := (v4_0).toNat) (sz := 1) (sub := 0) (ob := ⟨v4_1.map I, 1, false⟩) (e := I (v4_1.getD ((v4_0).toNat) default)) (d := I (v4_1.getD ((v4_0).toNat) default)) (by kernel_rfl) (by kernel_rfl) rfl (row_get (f := I) (by omega)) (by kernel_rfl)) (And.intro (idx_row (C := cfg) (nxt := 2) (t := 37) (ty := ty37) (te := ty3) (e := 3) (o := 1) (len := l.length) (sz := 1) (cap := (some 4)) (i := v4_0) (by kernel_rfl) rfl (by kernel_rfl) rfl (by omega) (by omega)) (And.intro (load_row (C := cfg) (objs := [(1, ⟨v4_1.map I, 1, false⟩)]) (nxt := 2) (t := 3) (ty := ty3) (o := 1) (n := (w64 (v4_0 - 1)).toNat) (sz := 1) (sub := 0) (ob := ⟨v4_1.map I, 1, false⟩) (e := I (v4_1.getD ((w64 (v4_0 - 1)).toNat) default)) (d := I (v4_1.getD ((w64 (v4_0 - 1)).toNat) default)) (by kernel_rfl) (by kernel_rfl) rfl (row_get (f := I) (by simp only [List.length_append, List.length_cons, List.length_nil, zr] at * <;> omega)) (by kernel_rfl)) (And.intro (idx_row (C := cfg) (nxt := 2) (t := 37) (ty := ty37) (te := ty3) (e := 3) (o := 1) (len := l.length) (sz := 1) (cap := (some 4)) (i := w64 (v4_0 - 1)) (by kernel_rfl) rfl (by kernel_rfl) rfl (by simp only [List.length_append, List.length_cons, List.length_nil, zr] at * <;> omega) (by simp only [List.length_append, List.length_cons, List.length_nil, zr] at * <;> omega)) (And.intro h9 (And.intro p5 (And.intro p4 (And.intro p3 (And.intro p2 (And.intro p1 (And.intro h8 trivial))))))))))))))) (by kernel_rfl) (by (simp only [sd58, go_sem, List.length_set, Nat.reduceAdd, Nat.reduceEqDiff, Nat.reduceLT, Nat.reduceLeDiff, bI2, zl.idsL, zl.renL, zl.snapAll, z8.idsL, z8.renL, z8.snapAll]) <;> rfl) (ih (w64 (v4_0 - 1)) ((v4_1.set ((v4_0).toNat) (v4_1.getD ((w64 (v4_0 - 1)).toNat) default)).set ((w64 (v4_0 - 1)).toNat) (v4_1.getD ((v4_0).toNat) default)) hf4 (by simp only [List.length_append, List.length_cons, List.length_nil, zr] at * <;> omega) (by simp only [List.length_set] at * <;> omega)) (by kernel_rfl)
      | false =>
        intro hf4
        exact zS ((isort4_4_f_o1 v4_0 v4_1) ++ [.dec false]) (And.intro h9 (And.intro p5 (And.intro p4 (And.intro p3 (And.intro p2 (And.intro p1 (And.intro h8 trivial))))))) (by kernel_rfl)
    | false =>
      have g8 := of_decide_eq_false h8
      intro hf4
      exact zS [.dec false] (And.intro h8 trivial) (by kernel_rfl)
theorem ivt_isort4_4 (l : List Int) (q4_0 : Int) : ∀ (rest4 : Nat) (v4_0 : Int) (v4_1 : List Int) (hf4 : isort4_4 rest4 v4_0 v4_1 ≠ .out) (hj : 0 ≤ v4_0 ∧ v4_0 < ((l.length : Nat) : Int) ∧ l.length ≤ 12) (hl4_v4_1 : v4_1.length = l.length), iv_isort4_4 l q4_0 (isort4_4 rest4 v4_0 v4_1) := by
  intro rest4
  induction rest4 with
  | zero =>
    intro v4_0 v4_1 hf4 hj hl4_v4_1
    exact absurd rfl hf4
  | succ rest4 ih =>
    intro v4_0 v4_1 hf4 hj hl4_v4_1
    unfold isort4_4 at hf4 ⊢
    revert hf4
    cases h8 : decide (v4_0 > 0) with
    | true =>
      have g8 := of_decide_eq_true h8
      cases h9 : (cmp_Less (v4_1.getD ((v4_0).toNat) default) (v4_1.getD ((w64 (v4_0 - 1)).toNat) default)) with
      | true =>
        intro hf4
        exact ih (w64 (v4_0 - 1)) ((v4_1.set ((v4_0).toNat) (v4_1.getD ((w64 (v4_0 - 1)).toNat) default)).set ((w64 (v4_0 - 1)).toNat) (v4_1.getD ((v4_0).toNat) default)) hf4 (by simp only [List.length_append, List.length_cons, List.length_nil, zr] at * <;> omega) (by simp only [List.length_set] at * <;> omega)
      | false =>
        intro hf4
        exact ⟨hj, hl4_v4_1⟩
    | false =>
      have g8 := of_decide_eq_false h8
      intro hf4
      exact ⟨hj, hl4_v4_1⟩

theorem isort4_ne : ∀ (n : Nat) (j : Int) (v : List Int), 0 ≤ j → j < n → j ≤ 12 → isort4_4 n j v ≠ .out
  | 0, j, v, h0, h1, _ => by omega
  | n + 1, j, v, h0, h1, h5 => by
    unfold isort4_4
    cases h2 : decide (j > 0) with
    | false => simp
    | true =>
      have := of_decide_eq_true h2
      cases h3 : cmp_Less (v.getD j.toNat default) (v.getD (w64 (j - 1)).toNat default) with
      | false => simp
      | true =>
        simp only [cond_true]
        exact isort4_ne n _ _ (by rw [yi (by omega) (by omega)]; omega) (by rw [yi (by omega) (by omega)]; omega) (by rw [yi (by omega) (by omega)]; omega)

noncomputable def lp100_1 : Code := subC [1, 0, 0] (bodyC Try.f100)

def sd65 (l : List Int) (i1 : Nat) (v4_0 : Int) (v4_1 : List Int) : St := ⟨49, [(6, I ((i1 + 1 : Nat) : Int)), (14, I ((i1 + 1 : Nat) : Int)), (13, I ((i1 : Nat) : Int)), (30, B false), (29, B false), (28, I (v4_1.getD ((w64 (v4_0 - 1)).toNat) default)), (27, .lref 1 ((w64 (v4_0 - 1)).toNat) 1 0), (26, I (w64 (v4_0 - 1))), (25, I v4_0), (24, .lsl 1 0 l.length 1 (some 4)), (23, I (v4_1.getD ((v4_0).toNat) default)), (22, .lref 1 ((v4_0).toNat) 1 0), (21, I v4_0), (20, .lsl 1 0 l.length 1 (some 4)), (19, B true), (18, B true), (17, I 0), (16, I v4_0), (0, .lsl 1 0 l.length 1 (some 4)), (1, I 0), (2, I ((l.length : Nat) : Int)), (6, I ((i1 : Nat) : Int)), (7, I v4_0)], [(1, ⟨v4_1.map I, 1, false⟩)], 2, 2⟩

def sd64 (l : List Int) (i1 : Nat) (v1_0 : List Int) : St := ⟨49, [(0, .lsl 1 0 l.length 1 (some 4)), (1, I 0), (2, I ((l.length : Nat) : Int)), (6, I ((i1 : Nat) : Int)), (7, I ((i1 : Nat) : Int))], [(1, ⟨v1_0.map I, 1, false⟩)], 2, 2⟩

def sd61 (l : List Int) (i1 : Nat) (v4_0 : Int) (v4_1 : List Int) : St := ⟨49, [(30, B false), (29, B false), (28, I (v4_1.getD ((w64 (v4_0 - 1)).toNat) default)), (27, .lref 1 ((w64 (v4_0 - 1)).toNat) 1 0), (26, I (w64 (v4_0 - 1))), (25, I v4_0), (24, .lsl 1 0 l.length 1 (some 4)), (23, I (v4_1.getD ((v4_0).toNat) default)), (22, .lref 1 ((v4_0).toNat) 1 0), (21, I v4_0), (20, .lsl 1 0 l.length 1 (some 4)), (19, B true), (18, B true), (17, I 0), (16, I v4_0), (0, .lsl 1 0 l.length 1 (some 4)), (1, I 0), (2, I ((l.length : Nat) : Int)), (6, I ((i1 : Nat) : Int)), (7, I v4_0)], [(1, ⟨v4_1.map I, 1, false⟩)], 2, 2⟩

def sd63 (l : List Int) (i1 : Nat) (v1_0 : List Int) : St := ⟨49, [(7, I ((i1 : Nat) : Int)), (15, I ((i1 : Nat) : Int)), (12, B true), (11, I ((l.length : Nat) : Int)), (10, I ((i1 : Nat) : Int)), (0, .lsl 1 0 l.length 1 (some 4)), (1, I 0), (2, I ((l.length : Nat) : Int)), (6, I ((i1 : Nat) : Int))], [(1, ⟨v1_0.map I, 1, false⟩)], 2, 2⟩

def sd66 (l : List Int) (i1 : Nat) (v4_0 : Int) (v4_1 : List Int) : St := ⟨49, [(6, I ((i1 + 1 : Nat) : Int)), (14, I ((i1 + 1 : Nat) : Int)), (13, I ((i1 : Nat) : Int)), (30, B false), (29, .tup []), (28, .tup []), (27, .tup []), (26, .tup []), (25, .tup []), (24, .tup []), (23, .tup []), (22, .tup []), (21, .tup []), (20, .tup []), (19, B false), (18, B false), (17, I 0), (16, I v4_0), (0, .lsl 1 0 l.length 1 (some 4)), (1, I 0), (2, I ((l.length : Nat) : Int)), (6, I ((i1 : Nat) : Int)), (7, I v4_0)], [(1, ⟨v4_1.map I, 1, false⟩)], 2, 2⟩

def sd62 (l : List Int) (i1 : Nat) (v4_0 : Int) (v4_1 : List Int) : St := ⟨49, [(30, B false), (29, .tup []), (28, .tup []), (27, .tup []), (26, .tup []), (25, .tup []), (24, .tup []), (23, .tup []), (22, .tup []), (21, .tup []), (20, .tup []), (19, B false), (18, B false), (17, I 0), (16, I v4_0), (0, .lsl 1 0 l.length 1 (some 4)), (1, I 0), (2, I ((l.length : Nat) : Int)), (6, I ((i1 : Nat) : Int)), (7, I v4_0)], [(1, ⟨v4_1.map I, 1, false⟩)], 2, 2⟩

inductive LR_isort4_1 where
  | x0 (i1 : Nat) (v1_0 : List Int)
instance : Inhabited LR_isort4_1 := ⟨.x0 default default⟩
def isort4_1 : Nat → Nat → (List Int) → LR_isort4_1
  | 0, i1, v1_0 => .x0 i1 v1_0
  | rest1 + 1, i1, v1_0 =>
    match isort4_4 (i1 + 1) ((i1 : Nat) : Int) v1_0 with
    | .x0 v4_0 v4_1 =>
      isort4_1 rest1 (i1 + 1) v4_1
    | .x1 v4_0 v4_1 =>
      isort4_1 rest1 (i1 + 1) v4_1
    | .out =>
      default
def lr_isort4_1 (l : List Int) : LR_isort4_1 → Exit × St
  | .x0 i1 v1_0 => ((.exit 0), ⟨49, [(12, B false), (11, I ((l.length : Nat) : Int)), (10, I ((i1 : Nat) : Int)), (0, .lsl 1 0 l.length 1 (some 4)), (1, I 0), (2, I ((l.length : Nat) : Int)), (6, I ((i1 : Nat) : Int))], [(1, ⟨v1_0.map I, 1, false⟩)], 2, 2⟩)
def iv_isort4_1 (l : List Int) : LR_isort4_1 → Prop
  | .x0 i1 v1_0 => (v1_0.length = l.length)
theorem lp_isort4_1 (l : List Int) : ∀ (rest1 : Nat) (i1 : Nat) (v1_0 : List Int) (hk1 : (((l.length : Nat) : Int) - ((i1 : Nat) : Int)).toNat = rest1) (hN1 : ((l.length : Nat) : Int) ≤ 9223372036854775807) (hn : l.length ≤ 12) (hl1_v1_0 : v1_0.length = l.length), (lim cfg).loop 100 lp100_1 ⟨49, [(0, .lsl 1 0 l.length 1 (some 4)), (1, I 0), (2, I ((l.length : Nat) : Int)), (6, I ((i1 : Nat) : Int))], [(1, ⟨v1_0.map I, 1, false⟩)], 2, 2⟩ = some (lr_isort4_1 l (isort4_1 rest1 i1 v1_0)) := by
  intro rest1
  induction rest1 with
  | zero =>
    intro i1 v1_0 hk1 hN1 hn hl1_v1_0
    unfold isort4_1
    exact zS [.dec false] (And.intro (ct_no hk1) trivial) (by kernel_rfl)
  | succ rest1 ih =>
    intro i1 v1_0 hk1 hN1 hn hl1_v1_0
    have hlt1 := of_decide_eq_true (ct_at hk1)
    unfold isort4_1
    cases h10 : isort4_4 (i1 + 1) ((i1 : Nat) : Int) v1_0 with
    | x0 v4_0 v4_1 =>
      try dsimp only
      have hv_h10 := ivt_isort4_4 l ((i1 : Nat) : Int) (i1 + 1) ((i1 : Nat) : Int) v1_0 (isort4_ne (i1 + 1) _ _ (by omega) (by omega) (by omega)) (by omega) (by omega)
      rw [h10] at hv_h10
      obtain ⟨hv_h10_0, hv_h10_1⟩ := hv_h10
      try dsimp only [iv_isort4_4] at hv_h10_0
      try dsimp only [iv_isort4_4] at hv_h10_1
      exact po_turn' (ks := [0, 1, 2, 6]) (st' := (sd65 l i1 v4_0 v4_1)) [.dec true, .gloop (sd64 l i1 v1_0) (.exit 2) (sd61 l i1 v4_0 v4_1), .rw 14 (I ((i1 + 1 : Nat) : Int))] (And.intro (zX (i := i1) (by omega)) (And.intro (po_lr (q := lr_isort4_4 l ((i1 : Nat) : Int)) (lp_isort4_4 l ((i1 : Nat) : Int) (i1 + 1) ((i1 : Nat) : Int) v1_0 (isort4_ne (i1 + 1) _ _ (by omega) (by omega) (by omega)) (by omega) (by omega)) h10) (And.intro (gc_of (C := cfg) (f := 100) (a := lp100_4) (ks := [0, 1, 2, 6, 7]) (st := (sd63 l i1 v1_0)) (st1 := (sd64 l i1 v1_0)) (by kernel_rfl) (by (simp only [sd63, sd64, go_sem, List.length_set, Nat.reduceAdd, Nat.reduceEqDiff, Nat.reduceLT, Nat.reduceLeDiff, bI2, zl.idsL, zl.renL, zl.snapAll, z8.idsL, z8.renL, z8.snapAll]) <;> rfl)) (And.intro (ct_at hk1) trivial)))) (by kernel_rfl) (by (simp only [sd65, go_sem, List.length_set, Nat.reduceAdd, Nat.reduceEqDiff, Nat.reduceLT, Nat.reduceLeDiff, bI2, zl.idsL, zl.renL, zl.snapAll, z8.idsL, z8.renL, z8.snapAll]) <;> rfl) (ih (i1 + 1) v4_1 (by omega) hN1 (by omega) (by omega)) (by kernel_rfl)
    | x1 v4_0 v4_1 =>
      try dsimp only
      have hv_h10 := ivt_isort4_4 l ((i1 : Nat) : Int) (i1 + 1) ((i1 : Nat) : Int) v1_0 (isort4_ne (i1 + 1) _ _ (by omega) (by omega) (by omega)) (by omega) (by omega)
      rw [h10] at hv_h10
      obtain ⟨hv_h10_0, hv_h10_1⟩ := hv_h10
      try dsimp only [iv_isort4_4] at hv_h10_0
      try dsimp only [iv_isort4_4] at hv_h10_1
      exact po_turn' (ks := [0, 1, 2, 6]) (st' := (sd66 l i1 v4_0 v4_1)) [.dec true, .gloop (sd64 l i1 v1_0) (.exit 2) (sd62 l i1 v4_0 v4_1), .rw 14 (I ((i1 + 1 : Nat) : Int))] (And.intro (zX (i := i1) (by omega)) (And.intro (po_lr (q := lr_isort4_4 l ((i1 : Nat) : Int)) (lp_isort4_4 l ((i1 : Nat) : Int) (i1 + 1) ((i1 : Nat) : Int) v1_0 (isort4_ne (i1 + 1) _ _ (by omega) (by omega) (by omega)) (by omega) (by omega)) h10) (And.intro (gc_of (C := cfg) (f := 100) (a := lp100_4) (ks := [0, 1, 2, 6, 7]) (st := (sd63 l i1 v1_0)) (st1 := (sd64 l i1 v1_0)) (by kernel_rfl) (by (simp only [sd63, sd64, go_sem, List.length_set, Nat.reduceAdd, Nat.reduceEqDiff, Nat.reduceLT, Nat.reduceLeDiff, bI2, zl.idsL, zl.renL, zl.snapAll, z8.idsL, z8.renL, z8.snapAll]) <;> rfl)) (And.intro (ct_at hk1) trivial)))) (by kernel_rfl) (by (simp only [sd66, go_sem, List.length_set, Nat.reduceAdd, Nat.reduceEqDiff, Nat.reduceLT, Nat.reduceLeDiff, bI2, zl.idsL, zl.renL, zl.snapAll, z8.idsL, z8.renL, z8.snapAll]) <;> rfl) (ih (i1 + 1) v4_1 (by omega) hN1 (by omega) (by omega)) (by kernel_rfl)
    | out =>
      exact absurd h10 (isort4_ne (i1 + 1) _ _ (by omega) (by omega) (by omega))
theorem ivt_isort4_1 (l : List Int) : ∀ (rest1 : Nat) (i1 : Nat) (v1_0 : List Int) (hk1 : (((l.length : Nat) : Int) - ((i1 : Nat) : Int)).toNat = rest1) (hN1 : ((l.length : Nat) : Int) ≤ 9223372036854775807) (hn : l.length ≤ 12) (hl1_v1_0 : v1_0.length = l.length), iv_isort4_1 l (isort4_1 rest1 i1 v1_0) := by
  intro rest1
  induction rest1 with
  | zero =>
    intro i1 v1_0 hk1 hN1 hn hl1_v1_0
    unfold isort4_1
    exact hl1_v1_0
  | succ rest1 ih =>
    intro i1 v1_0 hk1 hN1 hn hl1_v1_0
    have hlt1 := of_decide_eq_true (ct_at hk1)
    unfold isort4_1
    cases h10 : isort4_4 (i1 + 1) ((i1 : Nat) : Int) v1_0 with
    | x0 v4_0 v4_1 =>
      try dsimp only
      have hv_h10 := ivt_isort4_4 l ((i1 : Nat) : Int) (i1 + 1) ((i1 : Nat) : Int) v1_0 (isort4_ne (i1 + 1) _ _ (by omega) (by omega) (by omega)) (by omega) (by omega)
      rw [h10] at hv_h10
      obtain ⟨hv_h10_0, hv_h10_1⟩ := hv_h10
      try dsimp only [iv_isort4_4] at hv_h10_0
      try dsimp only [iv_isort4_4] at hv_h10_1
      exact ih (i1 + 1) v4_1 (by omega) hN1 (by omega) (by omega)
    | x1 v4_0 v4_1 =>
      try dsimp only
      have hv_h10 := ivt_isort4_4 l ((i1 : Nat) : Int) (i1 + 1) ((i1 : Nat) : Int) v1_0 (isort4_ne (i1 + 1) _ _ (by omega) (by omega) (by omega)) (by omega) (by omega)
      rw [h10] at hv_h10
      obtain ⟨hv_h10_0, hv_h10_1⟩ := hv_h10
      try dsimp only [iv_isort4_4] at hv_h10_0
      try dsimp only [iv_isort4_4] at hv_h10_1
      exact ih (i1 + 1) v4_1 (by omega) hN1 (by omega) (by omega)
    | out =>
      exact absurd h10 (isort4_ne (i1 + 1) _ _ (by omega) (by omega) (by omega))

def isort4 (l : List Int) : List Int :=
  match isort4_1 (((l.length : Nat) : Int) - 1).toNat 1 l with
  | .x0 i1 v1_0 =>
    v1_0

def sd67 (l : List Int) (i1 : Nat) (v1_0 : List Int) : St := ⟨49, [(12, B false), (11, I ((l.length : Nat) : Int)), (10, I ((i1 : Nat) : Int)), (0, .lsl 1 0 l.length 1 (some 4)), (1, I 0), (2, I ((l.length : Nat) : Int)), (6, I ((i1 : Nat) : Int))], [(1, ⟨v1_0.map I, 1, false⟩)], 2, 2⟩

theorem I_isort4 (l : List Int) (hl : l.length ≤ 12) : (lim cfg).inl 100 [.lsl 1 0 l.length 1 (some 4), I 0, I ((l.length : Nat) : Int)] [(1, ⟨l.map I, 1, false⟩)] 2 = some (.tup [], [(1, ⟨(isort4 l).map I, 1, false⟩)], 2) := by
  unfold isort4
  cases h11 : isort4_1 (((l.length : Nat) : Int) - 1).toNat 1 l with
  | x0 i1 v1_0 =>
    try dsimp only
    have hv_h11 := ivt_isort4_1 l (((l.length : Nat) : Int) - 1).toNat 1 l (by omega) (by omega) (by omega) (by omega)
    rw [h11] at hv_h11
    have hv_h11_0 := hv_h11
    try dsimp only [iv_isort4_1] at hv_h11_0
    exact po_inl [.gloop ⟨49, [(0, .lsl 1 0 l.length 1 (some 4)), (1, I 0), (2, I ((l.length : Nat) : Int)), (6, I 1)], [(1, ⟨l.map I, 1, false⟩)], 2, 2⟩ (.exit 0) (sd67 l i1 v1_0)] (And.intro (po_lr (q := lr_isort4_1 l) (lp_isort4_1 l (((l.length : Nat) : Int) - 1).toNat 1 l (by omega) (by omega) (by omega) (by omega)) h11) (And.intro (gc_of (C := cfg) (f := 100) (a := lp100_1) (ks := [0, 1, 2, 6]) (st := ⟨49, [(6, I 1), (9, I 1), (8, I 0), (0, .lsl 1 0 l.length 1 (some 4)), (1, I 0), (2, I ((l.length : Nat) : Int))], [(1, ⟨l.map I, 1, false⟩)], 2, 2⟩) (st1 := ⟨49, [(0, .lsl 1 0 l.length 1 (some 4)), (1, I 0), (2, I ((l.length : Nat) : Int)), (6, I 1)], [(1, ⟨l.map I, 1, false⟩)], 2, 2⟩) (by kernel_rfl) (by (simp only [go_sem, List.length_set, Nat.reduceAdd, Nat.reduceEqDiff, Nat.reduceLT, Nat.reduceLeDiff, bI2, zl.idsL, zl.renL, zl.snapAll, z8.idsL, z8.renL, z8.snapAll]) <;> rfl)) trivial)) (by kernel_rfl)

def pdq4 (l : List Int) (q : Int) : List Int :=
  (isort4 l)

def sd68 (l : List Int) (q : Int) : St := ⟨134, [(27, .tup []), (26, I ((l.length : Nat) : Int)), (25, I 0), (24, .lsl 1 0 l.length 1 (some 4)), (23, B true), (22, I (w64 (((l.length : Nat) : Int) - 0))), (10, I (w64 (((l.length : Nat) : Int) - 0))), (21, I (w64 (((l.length : Nat) : Int) - 0))), (20, I 0), (19, I ((l.length : Nat) : Int)), (0, .lsl 1 0 l.length 1 (some 4)), (1, I 0), (2, I ((l.length : Nat) : Int)), (3, I q), (8, B true), (9, B true)], [(1, ⟨(isort4 l).map I, 1, false⟩)], 2, 2⟩

noncomputable def lp80_2 : Code := subC [1, 1, 0, 0] (bodyC Try.f80)

theorem I_pdq4 (l : List Int) (q : Int) (hl : l.length ≤ 12) : (lim cfg).inl 80 [.lsl 1 0 l.length 1 (some 4), I 0, I ((l.length : Nat) : Int), I q] [(1, ⟨l.map I, 1, false⟩)] 2 = some (.tup [], [(1, ⟨(pdq4 l q).map I, 1, false⟩)], 2) := by
  unfold pdq4
  have l1 := (show decide ((w64 (((l.length : Nat) : Int) - 0)) ≤ 12) = true from (decide_eq_true (by simp only [List.length_append, List.length_cons, List.length_nil, zr] at * <;> omega)))
  have l2 := (And.intro (show liveFrom [(1, ⟨l.map I, 1, false⟩)] 256 [1] [] = some [1] from (by (simp only [liveFrom, go_sem, List.length_set, Nat.reduceAdd, Nat.reduceEqDiff, Nat.reduceLT, Nat.reduceLeDiff, bI2, zl.idsL, zl.renL, zl.snapAll, z8.idsL, z8.renL, z8.snapAll]) <;> rfl)) (I_isort4 l (by omega)))
  exact po_inl [.gloop ⟨134, [(0, .lsl 1 0 l.length 1 (some 4)), (1, I 0), (2, I ((l.length : Nat) : Int)), (3, I q), (8, B true), (9, B true)], [(1, ⟨l.map I, 1, false⟩)], 2, 2⟩ .ret (sd68 l q)] (And.intro (show (lim cfg).loop 80 lp80_2 ⟨134, [(0, .lsl 1 0 l.length 1 (some 4)), (1, I 0), (2, I ((l.length : Nat) : Int)), (3, I q), (8, B true), (9, B true)], [(1, ⟨l.map I, 1, false⟩)], 2, 2⟩ = some (.ret, (sd68 l q)) from (zS [.dec true, .inlS [1] (.tup []) [(1, ⟨(isort4 l).map I, 1, false⟩)] 2] (And.intro (l2) (And.intro (l1) trivial)) (by kernel_rfl))) (And.intro (gc_of (C := cfg) (f := 80) (a := lp80_2) (ks := [0, 1, 2, 3, 8, 9]) (st := ⟨134, [(9, B true), (8, B true), (0, .lsl 1 0 l.length 1 (some 4)), (1, I 0), (2, I ((l.length : Nat) : Int)), (3, I q)], [(1, ⟨l.map I, 1, false⟩)], 2, 2⟩) (st1 := ⟨134, [(0, .lsl 1 0 l.length 1 (some 4)), (1, I 0), (2, I ((l.length : Nat) : Int)), (3, I q), (8, B true), (9, B true)], [(1, ⟨l.map I, 1, false⟩)], 2, 2⟩) (by kernel_rfl) (by (simp only [go_sem, List.length_set, Nat.reduceAdd, Nat.reduceEqDiff, Nat.reduceLT, Nat.reduceLeDiff, bI2, zl.idsL, zl.renL, zl.snapAll, z8.idsL, z8.renL, z8.snapAll]) <;> rfl)) trivial)) (by kernel_rfl)

def sort4 (l : List Int) : List Int :=
  (pdq4 l (bl12 ((l.length : Nat) : Int)))

theorem I_sort4 (l : List Int) (hl : l.length ≤ 12) : (lim cfg).inl 38 [.lsl 1 0 l.length 1 (some 4)] [(1, ⟨l.map I, 1, false⟩)] 2 = some (.tup [], [(1, ⟨(sort4 l).map I, 1, false⟩)], 2) := by
  unfold sort4
  exact po_inl [.pure (I (bl12 ((l.length : Nat) : Int))), .inlS [1] (.tup []) [(1, ⟨(pdq4 l (bl12 ((l.length : Nat) : Int))).map I, 1, false⟩)] 2] (And.intro (And.intro (show liveFrom [(1, ⟨l.map I, 1, false⟩)] 256 [1] [] = some [1] from (by (simp only [liveFrom, go_sem, List.length_set, Nat.reduceAdd, Nat.reduceEqDiff, Nat.reduceLT, Nat.reduceLeDiff, bI2, zl.idsL, zl.renL, zl.snapAll, z8.idsL, z8.renL, z8.snapAll]) <;> rfl)) (I_pdq4 l (bl12 ((l.length : Nat) : Int)) (by omega))) (And.intro (T_bl (n := ((l.length : Nat) : Int)) (by omega) (by omega)) trivial)) (by kernel_rfl)
end Go.VS

namespace Go.VS
open Go Go.Proofs
set_option maxHeartbeats 0
set_option linter.unusedSimpArgs false
set_option linter.unusedVariables false
structure S_window where
  at_ : S_Span
  room_ : Int
  whole_ : S_Span
instance : Inhabited S_window := ⟨⟨default, 0, default⟩⟩
def S_window.D (x : S_window) : VS.D := .agg [I x.at_.lo, I x.at_.hi, I x.room_, I x.whole_.lo, I x.whole_.hi]
noncomputable def lp65_3 : Code := subC [1, 1, 0, 1, 0, 0] (bodyC Try.f65)

inductive LR_orders_total_3 where
  | x0 (v3_0 : Int)
instance : Inhabited LR_orders_total_3 := ⟨.x0 default⟩
def orders_total_3 : List Int → Int → LR_orders_total_3
  | [], v3_0 => .x0 v3_0
  | x3 :: rest3, v3_0 =>
    orders_total_3 rest3 (w64 (v3_0 + x3))
def lr_orders_total_3 (l : GS Int) : LR_orders_total_3 → Exit × St
  | .x0 v3_0 => ((.exit 0), ⟨17, [(9, B false), (3, I v3_0), (6, .sl l.nl (l.l.map I) (zsl l.nl 1) none), (7, I ((l.l.length : Nat) : Int)), (8, I ((l.l.length : Nat) : Int))], [], 0, 0⟩)
theorem lp_orders_total_3 (l : GS Int) : ∀ (rest3 : List Int) (i3 : Nat) (v3_0 : Int) (hd3 : l.l.drop i3 = rest3) (hi3 : i3 ≤ l.l.length) (hL3 : l.l.length ≤ 9223372036854775807), (lim cfg).loop 65 lp65_3 ⟨17, [(3, I v3_0), (6, .sl l.nl (l.l.map I) (zsl l.nl 1) none), (7, I ((l.l.length : Nat) : Int)), (8, I ((i3 : Nat) : Int))], [], 0, 0⟩ = some (lr_orders_total_3 l (orders_total_3 rest3 v3_0)) := by
  intro rest3
  induction rest3 with
  | nil =>
    intro i3 v3_0 hd3 hi3 hL3
    unfold orders_total_3
    obtain rfl : i3 = l.l.length := nil_eq hd3 hi3
    exact zS [.dec false] (And.intro (lt_no hd3) trivial) (by kernel_rfl)
  | cons x3 rest3 ih =>
    intro i3 v3_0 hd3 hi3 hL3
    have hlt3 := zt hd3
    unfold orders_total_3
    exact po_turn [.dec true, .el (I x3), .rw 15 (I ((i3 + 1 : Nat) : Int))] (And.intro (zX (i := i3) (by have := zt hd3; omega)) (And.intro (el_at (s := l) (f := I) (k := 1) hd3) (And.intro (lt_at hd3) trivial))) (ih (i3 + 1) (w64 (v3_0 + x3)) (zA hd3) (zt hd3) (by omega)) (by kernel_rfl)

def zN (l : GS Int) : Int :=
  match orders_total_3 l.l 0 with
  | .x0 v3_0 =>
    v3_0

theorem T_orders_total (l : GS Int) (hL_l : l.l.length ≤ 9223372036854775807) : (lim cfg).pure 65 [GS.D I 1 l] = some (I (zN l)) := by
  unfold zN
  cases h1 : orders_total_3 l.l 0 with
  | x0 v3_0 =>
    try dsimp only
    exact zk [.rw 7 (I ((l.l.length : Nat) : Int)), .loop (.exit 0) ⟨17, [(9, B false), (3, I v3_0), (6, .sl l.nl (l.l.map I) (zsl l.nl 1) none), (7, I ((l.l.length : Nat) : Int)), (8, I ((l.l.length : Nat) : Int))], [], 0, 0⟩] (And.intro (po_lr (q := lr_orders_total_3 l) (lp_orders_total_3 l l.l 0 0 (List.drop_zero) (Nat.zero_le _) (by omega)) h1) (And.intro (zu I l) trivial)) (by kernel_rfl)

def zz (e : S_Estate) (g : Int) : S_window :=
  (⟨(⟨(zQ e).lo, w64 (((zQ e).hi) - g)⟩ : S_Span), g, e.whole⟩ : S_window)

theorem T_orders_windowOf (e : S_Estate) (g : Int) (hL_e_items : e.items.l.length ≤ 9223372036854775807) : (lim cfg).pure 63 [S_Estate.D e, I g] = some (S_window.D (zz e g)) := by
  unfold zz
  exact zk [.pure (.agg [I ((zQ e).lo), I ((zQ e).hi)])] (And.intro (T_orders_all e (by omega)) trivial) (by kernel_rfl)

def zb (w : S_window) : Int × Int :=
  (ye 0 (w64 (w.whole_.lo - w.at_.hi)), imin w.room_ (w64 (w.whole_.hi - w.at_.lo)))

theorem T_orders_window_ends (w : S_window) : (lim cfg).pure 94 [S_window.D w] = some (.tup [I ((zb w).1), I ((zb w).2)]) := by
  unfold zb
  exact zk [] (trivial) (by kernel_rfl)

def zh (w : S_window) (s : Int) : S_Span :=
  bif ((y6 (⟨w64 (w.at_.lo + s), w64 (w.at_.hi + s)⟩ : S_Span) w.whole_).2) then
    ((y6 (⟨w64 (w.at_.lo + s), w64 (w.at_.hi + s)⟩ : S_Span) w.whole_).1)
  else
    ((y6 (⟨w64 (w.at_.lo + s), w64 (w.at_.hi + s)⟩ : S_Span) w.whole_).1)

theorem T_orders_window_seen (w : S_window) (s : Int) : (lim cfg).pure 95 [S_window.D w, I s] = some (S_Span.D (zh w s)) := by
  unfold zh
  cases h1 : ((y6 (⟨w64 (w.at_.lo + s), w64 (w.at_.hi + s)⟩ : S_Span) w.whole_).2) with
  | true =>
    exact zk [.pure (.tup [.agg [I (((y6 (⟨w64 (w.at_.lo + s), w64 (w.at_.hi + s)⟩ : S_Span) w.whole_).1).lo), I (((y6 (⟨w64 (w.at_.lo + s), w64 (w.at_.hi + s)⟩ : S_Span) w.whole_).1).hi)], B ((y6 (⟨w64 (w.at_.lo + s), w64 (w.at_.hi + s)⟩ : S_Span) w.whole_).2)]), .dec true] (And.intro h1 (And.intro (T_orders_common (⟨w64 (w.at_.lo + s), w64 (w.at_.hi + s)⟩ : S_Span) w.whole_) trivial)) (by kernel_rfl)
  | false =>
    exact zk [.pure (.tup [.agg [I (((y6 (⟨w64 (w.at_.lo + s), w64 (w.at_.hi + s)⟩ : S_Span) w.whole_).1).lo), I (((y6 (⟨w64 (w.at_.lo + s), w64 (w.at_.hi + s)⟩ : S_Span) w.whole_).1).hi)], B ((y6 (⟨w64 (w.at_.lo + s), w64 (w.at_.hi + s)⟩ : S_Span) w.whole_).2)]), .dec false] (And.intro h1 (And.intro (T_orders_common (⟨w64 (w.at_.lo + s), w64 (w.at_.hi + s)⟩ : S_Span) w.whole_) trivial)) (by kernel_rfl)

theorem isort4_len (l : List Int) (h : l.length ≤ 12) : (isort4 l).length = l.length := by
  unfold isort4
  cases h2 : isort4_1 (((l.length : Nat) : Int) - 1).toNat 1 l with
  | x0 i v =>
    by_cases h1 : 1 ≤ l.length
    · have := ivt_isort4_1 l (((l.length : Nat) : Int) - 1).toNat 1 l (by omega) (by omega) h rfl
      rw [h2] at this
      exact this
    · have : l = [] := List.eq_nil_of_length_eq_zero (by omega)
      subst this
      simp [isort4_1] at h2
      rw [← h2.2]
theorem zi (a b c d : Int) : (sort4 [a, b, c, d]).length = 4 := isort4_len [a, b, c, d] (by simp)

noncomputable def lp64_6 : Code := subC [1, 1, 1, 1, 1, 0, 1, 0, 0] (bodyC Try.f64)

def sd69 (w : S_window) (i6 : Nat) (q6_0 : List Int) (x6 : Int) (v6_0 : Int) (v6_1 : Int) : St := ⟨69, [(46, I ((i6 + 1 : Nat) : Int)), (66, I ((i6 + 1 : Nat) : Int)), (7, I x6), (6, I (w64 (((zh w x6).hi) - ((zh w x6).lo)))), (65, I x6), (64, I (w64 (((zh w x6).hi) - ((zh w x6).lo)))), (63, I ((zh w x6).lo)), (62, .lref 2 0 2 0), (61, I ((zh w x6).hi)), (60, .lref 2 0 2 1), (59, B true), (58, I v6_0), (57, I (w64 (((zh w x6).hi) - ((zh w x6).lo)))), (56, I ((zh w x6).lo)), (55, .lref 2 0 2 0), (54, I ((zh w x6).hi)), (53, .lref 2 0 2 1), (11, .lref 2 0 2 0), (52, .agg [I ((zh w x6).lo), I ((zh w x6).hi)]), (51, I x6), (50, .agg [I w.at_.lo, I w.at_.hi, I w.room_, I w.whole_.lo, I w.whole_.hi]), (10, I x6), (49, I x6), (48, .lref 1 i6 1 0), (47, B true), (1, .lref 0 0 5 0), (6, I v6_0), (7, I v6_1), (44, .lsl 1 0 4 1 (some 4)), (45, I 4), (46, I ((i6 : Nat) : Int))], [(0, ⟨[.agg [I w.at_.lo, I w.at_.hi, I w.room_, I w.whole_.lo, I w.whole_.hi]], 5, false⟩), (1, ⟨q6_0.map I, 1, false⟩), (2, ⟨[.agg [I ((zh w x6).lo), I ((zh w x6).hi)]], 2, false⟩)], 3, 0⟩

def sd70 (w : S_window) (i6 : Nat) (q6_0 : List Int) (x6 : Int) (v6_0 : Int) (v6_1 : Int) : St := ⟨69, [(46, I ((i6 + 1 : Nat) : Int)), (66, I ((i6 + 1 : Nat) : Int)), (59, B false), (58, I v6_0), (57, I (w64 (((zh w x6).hi) - ((zh w x6).lo)))), (56, I ((zh w x6).lo)), (55, .lref 2 0 2 0), (54, I ((zh w x6).hi)), (53, .lref 2 0 2 1), (11, .lref 2 0 2 0), (52, .agg [I ((zh w x6).lo), I ((zh w x6).hi)]), (51, I x6), (50, .agg [I w.at_.lo, I w.at_.hi, I w.room_, I w.whole_.lo, I w.whole_.hi]), (10, I x6), (49, I x6), (48, .lref 1 i6 1 0), (47, B true), (1, .lref 0 0 5 0), (6, I v6_0), (7, I v6_1), (44, .lsl 1 0 4 1 (some 4)), (45, I 4), (46, I ((i6 : Nat) : Int))], [(0, ⟨[.agg [I w.at_.lo, I w.at_.hi, I w.room_, I w.whole_.lo, I w.whole_.hi]], 5, false⟩), (1, ⟨q6_0.map I, 1, false⟩), (2, ⟨[.agg [I ((zh w x6).lo), I ((zh w x6).hi)]], 2, false⟩)], 3, 0⟩

inductive LR_orders_window_widest_6 where
  | x0 (v6_0 : Int) (v6_1 : Int)
instance : Inhabited LR_orders_window_widest_6 := ⟨.x0 default default⟩
def y8 (w : S_window) : List Int → Int → Int → LR_orders_window_widest_6
  | [], v6_0, v6_1 => .x0 v6_0 v6_1
  | x6 :: rest6, v6_0, v6_1 =>
    bif decide ((w64 (((zh w x6).hi) - ((zh w x6).lo))) > v6_0) then
      y8 w rest6 (w64 (((zh w x6).hi) - ((zh w x6).lo))) x6
    else
      y8 w rest6 v6_0 v6_1
def lr_orders_window_widest_6 (w : S_window) (q6_0 : List Int) : LR_orders_window_widest_6 → Exit × St
  | .x0 v6_0 v6_1 => ((.exit 0), ⟨69, [(47, B false), (1, .lref 0 0 5 0), (6, I v6_0), (7, I v6_1), (44, .lsl 1 0 4 1 (some 4)), (45, I 4), (46, I ((q6_0.length : Nat) : Int))], [(0, ⟨[.agg [I w.at_.lo, I w.at_.hi, I w.room_, I w.whole_.lo, I w.whole_.hi]], 5, false⟩), (1, ⟨q6_0.map I, 1, false⟩)], 2, 0⟩)
theorem lp_orders_window_widest_6 (w : S_window) (q6_0 : List Int) : ∀ (rest6 : List Int) (i6 : Nat) (v6_0 : Int) (v6_1 : Int) (hd6 : q6_0.drop i6 = rest6) (hi6 : i6 ≤ q6_0.length) (hq6 : q6_0.length = 4) (hL6 : q6_0.length ≤ 9223372036854775807), (lim cfg).loop 64 lp64_6 ⟨69, [(1, .lref 0 0 5 0), (6, I v6_0), (7, I v6_1), (44, .lsl 1 0 4 1 (some 4)), (45, I 4), (46, I ((i6 : Nat) : Int))], [(0, ⟨[.agg [I w.at_.lo, I w.at_.hi, I w.room_, I w.whole_.lo, I w.whole_.hi]], 5, false⟩), (1, ⟨q6_0.map I, 1, false⟩)], 2, 0⟩ = some (lr_orders_window_widest_6 w q6_0 (y8 w rest6 v6_0 v6_1)) := by
  intro rest6
  induction rest6 with
  | nil =>
    intro i6 v6_0 v6_1 hd6 hi6 hq6 hL6
    unfold y8
    obtain rfl : i6 = q6_0.length := nil_eq hd6 hi6
    exact zS [.dec false] (And.intro (lt_no' hd6 hq6) trivial) (by kernel_rfl)
  | cons x6 rest6 ih =>
    intro i6 v6_0 v6_1 hd6 hi6 hq6 hL6
    have hlt6 := zt hd6
    unfold y8
    cases h2 : decide ((w64 (((zh w x6).hi) - ((zh w x6).lo))) > v6_0) with
    | true =>
      have g2 := of_decide_eq_true h2
      exact po_turn' (ks := [1, 6, 7, 44, 45, 46]) (st' := (sd69 w i6 q6_0 x6 v6_0 v6_1)) [.dec true, .op (some 48) ⟨.lref 1 i6 1 0, [], [], 2⟩, .op (some 49) ⟨I x6, [], [1], 2⟩, .pure (.agg [I ((zh w x6).lo), I ((zh w x6).hi)]), .dec true, .rw 66 (I ((i6 + 1 : Nat) : Int))] (And.intro (zX (i := i6) (by have := zt hd6; omega)) (And.intro h2 (And.intro (T_orders_window_seen w x6) (And.intro (load_row (C := cfg) (objs := [(0, ⟨[.agg [I w.at_.lo, I w.at_.hi, I w.room_, I w.whole_.lo, I w.whole_.hi]], 5, false⟩), (1, ⟨q6_0.map I, 1, false⟩)]) (nxt := 2) (t := 3) (ty := ty3) (o := 1) (n := i6) (sz := 1) (sub := 0) (ob := ⟨q6_0.map I, 1, false⟩) (e := I x6) (d := I x6) (by kernel_rfl) (by kernel_rfl) rfl (row_at (f := I) hd6) (by kernel_rfl)) (And.intro (idx_row (C := cfg) (nxt := 2) (t := 37) (ty := ty37) (te := ty3) (e := 3) (o := 1) (len := 4) (sz := 1) (cap := (some 4)) (i := ((i6 : Nat) : Int)) (by kernel_rfl) rfl (by kernel_rfl) rfl (by omega) (by omega)) (And.intro (lt_at' hd6 hq6) trivial)))))) (by kernel_rfl) (by (simp only [sd69, go_sem, List.length_set, Nat.reduceAdd, Nat.reduceEqDiff, Nat.reduceLT, Nat.reduceLeDiff, bI2, zl.idsL, zl.renL, zl.snapAll, z8.idsL, z8.renL, z8.snapAll]) <;> rfl) (ih (i6 + 1) (w64 (((zh w x6).hi) - ((zh w x6).lo))) x6 (zA hd6) (zt hd6) (by omega) (by omega)) (by kernel_rfl)
    | false =>
      have g2 := of_decide_eq_false h2
      exact po_turn' (ks := [1, 6, 7, 44, 45, 46]) (st' := (sd70 w i6 q6_0 x6 v6_0 v6_1)) [.dec true, .op (some 48) ⟨.lref 1 i6 1 0, [], [], 2⟩, .op (some 49) ⟨I x6, [], [1], 2⟩, .pure (.agg [I ((zh w x6).lo), I ((zh w x6).hi)]), .dec false, .rw 66 (I ((i6 + 1 : Nat) : Int))] (And.intro (zX (i := i6) (by have := zt hd6; omega)) (And.intro h2 (And.intro (T_orders_window_seen w x6) (And.intro (load_row (C := cfg) (objs := [(0, ⟨[.agg [I w.at_.lo, I w.at_.hi, I w.room_, I w.whole_.lo, I w.whole_.hi]], 5, false⟩), (1, ⟨q6_0.map I, 1, false⟩)]) (nxt := 2) (t := 3) (ty := ty3) (o := 1) (n := i6) (sz := 1) (sub := 0) (ob := ⟨q6_0.map I, 1, false⟩) (e := I x6) (d := I x6) (by kernel_rfl) (by kernel_rfl) rfl (row_at (f := I) hd6) (by kernel_rfl)) (And.intro (idx_row (C := cfg) (nxt := 2) (t := 37) (ty := ty37) (te := ty3) (e := 3) (o := 1) (len := 4) (sz := 1) (cap := (some 4)) (i := ((i6 : Nat) : Int)) (by kernel_rfl) rfl (by kernel_rfl) rfl (by omega) (by omega)) (And.intro (lt_at' hd6 hq6) trivial)))))) (by kernel_rfl) (by (simp only [sd70, go_sem, List.length_set, Nat.reduceAdd, Nat.reduceEqDiff, Nat.reduceLT, Nat.reduceLeDiff, bI2, zl.idsL, zl.renL, zl.snapAll, z8.idsL, z8.renL, z8.snapAll]) <;> rfl) (ih (i6 + 1) v6_0 v6_1 (zA hd6) (zt hd6) (by omega) (by omega)) (by kernel_rfl)

def zY (w : S_window) : Int × Int :=
  match y8 w (sort4 [((zb w).1), ((zb w).2), imin (ye (w64 (w.whole_.lo - w.at_.lo)) ((zb w).1)) ((zb w).2), imin (ye (w64 (w.whole_.hi - w.at_.hi)) ((zb w).1)) ((zb w).2)]) (-1) 0 with
  | .x0 v6_0 v6_1 =>
    (v6_0, v6_1)

def sd72 (w : S_window) : St := ⟨69, [(1, .lref 0 0 5 0), (6, I (-1)), (7, I 0), (44, .lsl 1 0 4 1 (some 4)), (45, I 4), (46, I 0)], [(0, ⟨[.agg [I w.at_.lo, I w.at_.hi, I w.room_, I w.whole_.lo, I w.whole_.hi]], 5, false⟩), (1, ⟨(sort4 [((zb w).1), ((zb w).2), imin (ye (w64 (w.whole_.lo - w.at_.lo)) ((zb w).1)) ((zb w).2), imin (ye (w64 (w.whole_.hi - w.at_.hi)) ((zb w).1)) ((zb w).2)]).map I, 1, false⟩)], 2, 0⟩

def sd73 (w : S_window) (v6_0 : Int) (v6_1 : Int) : St := ⟨69, [(47, B false), (1, .lref 0 0 5 0), (6, I v6_0), (7, I v6_1), (44, .lsl 1 0 4 1 (some 4)), (45, I 4), (46, I (((sort4 [((zb w).1), ((zb w).2), imin (ye (w64 (w.whole_.lo - w.at_.lo)) ((zb w).1)) ((zb w).2), imin (ye (w64 (w.whole_.hi - w.at_.hi)) ((zb w).1)) ((zb w).2)]).length : Nat) : Int))], [(0, ⟨[.agg [I w.at_.lo, I w.at_.hi, I w.room_, I w.whole_.lo, I w.whole_.hi]], 5, false⟩), (1, ⟨(sort4 [((zb w).1), ((zb w).2), imin (ye (w64 (w.whole_.lo - w.at_.lo)) ((zb w).1)) ((zb w).2), imin (ye (w64 (w.whole_.hi - w.at_.hi)) ((zb w).1)) ((zb w).2)]).map I, 1, false⟩)], 2, 0⟩

def sd71 (w : S_window) : St := ⟨69, [(46, I 0), (45, I 4), (44, .lsl 1 0 4 1 (some 4)), (43, .tup []), (42, .lsl 1 0 4 1 (some 4)), (8, .lsl 1 0 4 1 (some 4)), (41, .lsl 1 0 4 1 (some 4)), (40, I (imin (ye (w64 (w.whole_.hi - w.at_.hi)) ((zb w).1)) ((zb w).2))), (39, I ((zb w).2)), (38, I (ye (w64 (w.whole_.hi - w.at_.hi)) ((zb w).1))), (37, I ((zb w).1)), (36, I (w64 (w.whole_.hi - w.at_.hi))), (35, I w.at_.hi), (34, .lref 0 0 5 1), (33, .lref 0 0 5 0), (32, I w.whole_.hi), (31, .lref 0 0 5 4), (30, .lref 0 0 5 3), (29, I (imin (ye (w64 (w.whole_.lo - w.at_.lo)) ((zb w).1)) ((zb w).2))), (28, I ((zb w).2)), (27, I (ye (w64 (w.whole_.lo - w.at_.lo)) ((zb w).1))), (26, I ((zb w).1)), (25, I (w64 (w.whole_.lo - w.at_.lo))), (24, I w.at_.lo), (23, .lref 0 0 5 0), (22, .lref 0 0 5 0), (21, I w.whole_.lo), (20, .lref 0 0 5 3), (19, .lref 0 0 5 3), (18, I ((zb w).2)), (17, I ((zb w).1)), (7, I 0), (6, I (-1)), (5, I ((zb w).2)), (4, I ((zb w).1)), (16, I ((zb w).2)), (15, I ((zb w).1)), (12, .tup [I ((zb w).1), I ((zb w).2)]), (14, .tup [I ((zb w).1), I ((zb w).2)]), (13, .agg [I w.at_.lo, I w.at_.hi, I w.room_, I w.whole_.lo, I w.whole_.hi]), (3, I 0), (2, I 0), (1, .lref 0 0 5 0), (0, .agg [I w.at_.lo, I w.at_.hi, I w.room_, I w.whole_.lo, I w.whole_.hi])], [(0, ⟨[.agg [I w.at_.lo, I w.at_.hi, I w.room_, I w.whole_.lo, I w.whole_.hi]], 5, false⟩), (1, ⟨(sort4 [((zb w).1), ((zb w).2), imin (ye (w64 (w.whole_.lo - w.at_.lo)) ((zb w).1)) ((zb w).2), imin (ye (w64 (w.whole_.hi - w.at_.hi)) ((zb w).1)) ((zb w).2)]).map I, 1, false⟩)], 2, 0⟩

theorem T_orders_window_widest (w : S_window) : (lim cfg).pure 64 [S_window.D w] = some (.tup [I ((zY w).1), I ((zY w).2)]) := by
  unfold zY
  cases h3 : y8 w (sort4 [((zb w).1), ((zb w).2), imin (ye (w64 (w.whole_.lo - w.at_.lo)) ((zb w).1)) ((zb w).2), imin (ye (w64 (w.whole_.hi - w.at_.hi)) ((zb w).1)) ((zb w).2)]) (-1) 0 with
  | x0 v6_0 v6_1 =>
    try dsimp only
    exact zk [.pure (.tup [I ((zb w).1), I ((zb w).2)]), .inl (.tup []) [(1, ⟨(sort4 [((zb w).1), ((zb w).2), imin (ye (w64 (w.whole_.lo - w.at_.lo)) ((zb w).1)) ((zb w).2), imin (ye (w64 (w.whole_.hi - w.at_.hi)) ((zb w).1)) ((zb w).2)]).map I, 1, false⟩)] 2, .gloop (sd72 w) (.exit 0) (sd73 w v6_0 v6_1)] (And.intro (po_lr (q := lr_orders_window_widest_6 w (sort4 [((zb w).1), ((zb w).2), imin (ye (w64 (w.whole_.lo - w.at_.lo)) ((zb w).1)) ((zb w).2), imin (ye (w64 (w.whole_.hi - w.at_.hi)) ((zb w).1)) ((zb w).2)])) (lp_orders_window_widest_6 w (sort4 [((zb w).1), ((zb w).2), imin (ye (w64 (w.whole_.lo - w.at_.lo)) ((zb w).1)) ((zb w).2), imin (ye (w64 (w.whole_.hi - w.at_.hi)) ((zb w).1)) ((zb w).2)]) (sort4 [((zb w).1), ((zb w).2), imin (ye (w64 (w.whole_.lo - w.at_.lo)) ((zb w).1)) ((zb w).2), imin (ye (w64 (w.whole_.hi - w.at_.hi)) ((zb w).1)) ((zb w).2)]) 0 (-1) 0 (List.drop_zero) (Nat.zero_le _) (by simp only [zo, zi, GS.some_l, List.length_set, List.length_append, List.length_cons, List.length_nil] at * <;> first | with_reducible assumption | omega) (by simp only [zo, zi, GS.some_l, List.length_set, List.length_append, List.length_cons, List.length_nil] at * <;> first | with_reducible assumption | omega)) h3) (And.intro (gc_of (C := cfg) (f := 64) (a := lp64_6) (ks := [1, 6, 7, 44, 45, 46]) (st := (sd71 w)) (st1 := (sd72 w)) (by kernel_rfl) (by (simp only [sd71, sd72, go_sem, List.length_set, Nat.reduceAdd, Nat.reduceEqDiff, Nat.reduceLT, Nat.reduceLeDiff, bI2, zl.idsL, zl.renL, zl.snapAll, z8.idsL, z8.renL, z8.snapAll]) <;> rfl)) (And.intro (I_sort4 [((zb w).1), ((zb w).2), imin (ye (w64 (w.whole_.lo - w.at_.lo)) ((zb w).1)) ((zb w).2), imin (ye (w64 (w.whole_.hi - w.at_.hi)) ((zb w).1)) ((zb w).2)] (by simp only [List.length_append, List.length_cons, List.length_nil] at * <;> omega)) (And.intro (T_orders_window_ends w) trivial)))) (by kernel_rfl)

noncomputable def lp71_5 : Code := subC [1, 1, 0, 1, 0, 0] (bodyC Try.f71)

inductive LR_orders_right_5 where
  | x0
  | x1 (i5 : Nat) (x5 : Int)
  | x2 (i5 : Nat) (x5 : Int)
instance : Inhabited LR_orders_right_5 := ⟨.x0⟩
def orders_right_5 (e : S_Estate) (items : GS Int) : List Int → Nat → LR_orders_right_5
  | [], i5 => .x0
  | x5 :: rest5, i5 =>
    bif (zO x5 0 (w64 (((e.items.l.length : Nat) : Int) - 1))) then
      bif decide (((i5 : Nat) : Int) > 0) then
        bif decide ((GS.at items (w64 (((i5 : Nat) : Int) - 1))) ≥ x5) then
          .x1 i5 x5
        else
          orders_right_5 e items rest5 (i5 + 1)
      else
        orders_right_5 e items rest5 (i5 + 1)
    else
      .x2 i5 x5
def lr_orders_right_5 (e : S_Estate) (items : GS Int) : LR_orders_right_5 → Exit × St
  | .x0 => ((.exit 0), ⟨41, [(16, B false), (1, .sl items.nl (items.l.map I) (zsl items.nl 1) none), (2, .lref 0 0 3 0), (13, .sl items.nl (items.l.map I) (zsl items.nl 1) none), (14, I ((items.l.length : Nat) : Int)), (15, I ((items.l.length : Nat) : Int))], [(0, ⟨[.agg [.sl e.items.nl (e.items.l.map S_Item.D) (zsl e.items.nl 4) none, I e.whole.lo, I e.whole.hi]], 3, false⟩)], 1, 0⟩)
  | .x1 i5 x5 => (.ret, ⟨41, [(4, I 1), (39, B true), (38, B true), (37, B true), (36, I x5), (35, I (GS.at items (w64 (((i5 : Nat) : Int) - 1)))), (34, .ptr (I (GS.at items (w64 (((i5 : Nat) : Int) - 1))))), (33, I (w64 (((i5 : Nat) : Int) - 1))), (32, I ((i5 : Nat) : Int)), (31, .sl items.nl (items.l.map I) (zsl items.nl 1) none), (30, B true), (29, B true), (28, I ((i5 : Nat) : Int)), (27, B false), (26, B false), (25, B true), (24, I (w64 (((e.items.l.length : Nat) : Int) - 1))), (23, I ((e.items.l.length : Nat) : Int)), (22, .sl e.items.nl (e.items.l.map S_Item.D) (zsl e.items.nl 4) none), (21, .lref 0 0 3 0), (20, I x5), (7, I x5), (6, I ((i5 : Nat) : Int)), (19, I x5), (18, .ptr (I x5)), (17, I ((i5 : Nat) : Int)), (16, B true), (1, .sl items.nl (items.l.map I) (zsl items.nl 1) none), (2, .lref 0 0 3 0), (13, .sl items.nl (items.l.map I) (zsl items.nl 1) none), (14, I ((items.l.length : Nat) : Int)), (15, I ((i5 : Nat) : Int))], [(0, ⟨[.agg [.sl e.items.nl (e.items.l.map S_Item.D) (zsl e.items.nl 4) none, I e.whole.lo, I e.whole.hi]], 3, false⟩)], 1, 0⟩)
  | .x2 i5 x5 => (.ret, ⟨41, [(4, I 1), (39, B true), (38, .tup []), (37, .tup []), (36, .tup []), (35, .tup []), (34, .tup []), (33, .tup []), (32, .tup []), (31, .tup []), (30, .tup []), (29, .tup []), (28, .tup []), (27, B true), (26, B true), (25, B false), (24, I (w64 (((e.items.l.length : Nat) : Int) - 1))), (23, I ((e.items.l.length : Nat) : Int)), (22, .sl e.items.nl (e.items.l.map S_Item.D) (zsl e.items.nl 4) none), (21, .lref 0 0 3 0), (20, I x5), (7, I x5), (6, I ((i5 : Nat) : Int)), (19, I x5), (18, .ptr (I x5)), (17, I ((i5 : Nat) : Int)), (16, B true), (1, .sl items.nl (items.l.map I) (zsl items.nl 1) none), (2, .lref 0 0 3 0), (13, .sl items.nl (items.l.map I) (zsl items.nl 1) none), (14, I ((items.l.length : Nat) : Int)), (15, I ((i5 : Nat) : Int))], [(0, ⟨[.agg [.sl e.items.nl (e.items.l.map S_Item.D) (zsl e.items.nl 4) none, I e.whole.lo, I e.whole.hi]], 3, false⟩)], 1, 0⟩)
def orders_right_5_l_o1 (e : S_Estate) (x5 : Int) : List Ora := [.dec true, .el (I x5), .rw 23 (I ((e.items.l.length : Nat) : Int)), .pure (B (zO x5 0 (w64 (((e.items.l.length : Nat) : Int) - 1))))]
theorem lp_orders_right_5 (e : S_Estate) (items : GS Int) : ∀ (rest5 : List Int) (i5 : Nat) (hd5 : items.l.drop i5 = rest5) (hi5 : i5 ≤ items.l.length) (hL5 : items.l.length ≤ 9223372036854775807), (lim cfg).loop 71 lp71_5 ⟨41, [(1, .sl items.nl (items.l.map I) (zsl items.nl 1) none), (2, .lref 0 0 3 0), (13, .sl items.nl (items.l.map I) (zsl items.nl 1) none), (14, I ((items.l.length : Nat) : Int)), (15, I ((i5 : Nat) : Int))], [(0, ⟨[.agg [.sl e.items.nl (e.items.l.map S_Item.D) (zsl e.items.nl 4) none, I e.whole.lo, I e.whole.hi]], 3, false⟩)], 1, 0⟩ = some (lr_orders_right_5 e items (orders_right_5 e items rest5 i5)) := by
  intro rest5
  induction rest5 with
  | nil =>
    intro i5 hd5 hi5 hL5
    unfold orders_right_5
    obtain rfl : i5 = items.l.length := nil_eq hd5 hi5
    exact zS [.dec false] (And.intro (lt_no hd5) trivial) (by kernel_rfl)
  | cons x5 rest5 ih =>
    intro i5 hd5 hi5 hL5
    have hlt5 := zt hd5
    unfold orders_right_5
    have p1 := (el_at (s := items) (f := I) (k := 1) hd5)
    have p2 := (T_orders_within x5 0 (w64 (((e.items.l.length : Nat) : Int) - 1)))
    cases h5 : (zO x5 0 (w64 (((e.items.l.length : Nat) : Int) - 1))) with
    | true =>
      have g5 := within_t h5
      cases h6 : decide (((i5 : Nat) : Int) > 0) with
      | true =>
        have g6 := of_decide_eq_true h6
        have p3 := (el_in (s := items) (f := I) (k := 1) (i := w64 (((i5 : Nat) : Int) - 1)) (by simp only [List.length_append, List.length_cons, List.length_nil, zr] at * <;> omega) (by simp only [List.length_append, List.length_cons, List.length_nil, zr] at * <;> omega))
        cases h7 : decide ((GS.at items (w64 (((i5 : Nat) : Int) - 1))) ≥ x5) with
        | true =>
          have g7 := of_decide_eq_true h7
          exact zS ((orders_right_5_l_o1 e x5) ++ [.dec true, .dec true, .el (I (GS.at items (w64 (((i5 : Nat) : Int) - 1)))), .dec true]) (And.intro h7 (And.intro p3 (And.intro h6 (And.intro h5 (And.intro p2 (And.intro (zu S_Item.D e.items) (And.intro p1 (And.intro (lt_at hd5) trivial)))))))) (by kernel_rfl)
        | false =>
          have g7 := of_decide_eq_false h7
          exact po_turn ((orders_right_5_l_o1 e x5) ++ [.dec true, .dec true, .el (I (GS.at items (w64 (((i5 : Nat) : Int) - 1)))), .dec false, .rw 40 (I ((i5 + 1 : Nat) : Int))]) (And.intro (zX (i := i5) (by have := zt hd5; omega)) (And.intro h7 (And.intro p3 (And.intro h6 (And.intro h5 (And.intro p2 (And.intro (zu S_Item.D e.items) (And.intro p1 (And.intro (lt_at hd5) trivial))))))))) (ih (i5 + 1) (zA hd5) (zt hd5) (by omega)) (by kernel_rfl)
      | false =>
        have g6 := of_decide_eq_false h6
        exact po_turn ((orders_right_5_l_o1 e x5) ++ [.dec true, .dec false, .rw 40 (I ((i5 + 1 : Nat) : Int))]) (And.intro (zX (i := i5) (by have := zt hd5; omega)) (And.intro h6 (And.intro h5 (And.intro p2 (And.intro (zu S_Item.D e.items) (And.intro p1 (And.intro (lt_at hd5) trivial))))))) (ih (i5 + 1) (zA hd5) (zt hd5) (by omega)) (by kernel_rfl)
    | false =>
      have g5 := within_f h5
      exact zS ((orders_right_5_l_o1 e x5) ++ [.dec false]) (And.intro h5 (And.intro p2 (And.intro (zu S_Item.D e.items) (And.intro p1 (And.intro (lt_at hd5) trivial))))) (by kernel_rfl)

def orders_right (e : S_Estate) (items : GS Int) : Int :=
  bif ((zy e) != 0) then
    (zy e)
  else
    match orders_right_5 e items items.l 0 with
    | .x0 =>
      0
    | .x1 i5 x5 =>
      1
    | .x2 i5 x5 =>
      1

def sd74 (e : S_Estate) (items : GS Int) : St := ⟨41, [(16, B false), (1, .sl items.nl (items.l.map I) (zsl items.nl 1) none), (2, .lref 0 0 3 0), (13, .sl items.nl (items.l.map I) (zsl items.nl 1) none), (14, I ((items.l.length : Nat) : Int)), (15, I ((items.l.length : Nat) : Int))], [(0, ⟨[.agg [.sl e.items.nl (e.items.l.map S_Item.D) (zsl e.items.nl 4) none, I e.whole.lo, I e.whole.hi]], 3, false⟩)], 1, 0⟩

def sd75 (e : S_Estate) (items : GS Int) (i5 : Nat) (x5 : Int) : St := ⟨41, [(4, I 1), (39, B true), (38, B true), (37, B true), (36, I x5), (35, I (GS.at items (w64 (((i5 : Nat) : Int) - 1)))), (34, .ptr (I (GS.at items (w64 (((i5 : Nat) : Int) - 1))))), (33, I (w64 (((i5 : Nat) : Int) - 1))), (32, I ((i5 : Nat) : Int)), (31, .sl items.nl (items.l.map I) (zsl items.nl 1) none), (30, B true), (29, B true), (28, I ((i5 : Nat) : Int)), (27, B false), (26, B false), (25, B true), (24, I (w64 (((e.items.l.length : Nat) : Int) - 1))), (23, I ((e.items.l.length : Nat) : Int)), (22, .sl e.items.nl (e.items.l.map S_Item.D) (zsl e.items.nl 4) none), (21, .lref 0 0 3 0), (20, I x5), (7, I x5), (6, I ((i5 : Nat) : Int)), (19, I x5), (18, .ptr (I x5)), (17, I ((i5 : Nat) : Int)), (16, B true), (1, .sl items.nl (items.l.map I) (zsl items.nl 1) none), (2, .lref 0 0 3 0), (13, .sl items.nl (items.l.map I) (zsl items.nl 1) none), (14, I ((items.l.length : Nat) : Int)), (15, I ((i5 : Nat) : Int))], [(0, ⟨[.agg [.sl e.items.nl (e.items.l.map S_Item.D) (zsl e.items.nl 4) none, I e.whole.lo, I e.whole.hi]], 3, false⟩)], 1, 0⟩

def sd76 (e : S_Estate) (items : GS Int) (i5 : Nat) (x5 : Int) : St := ⟨41, [(4, I 1), (39, B true), (38, .tup []), (37, .tup []), (36, .tup []), (35, .tup []), (34, .tup []), (33, .tup []), (32, .tup []), (31, .tup []), (30, .tup []), (29, .tup []), (28, .tup []), (27, B true), (26, B true), (25, B false), (24, I (w64 (((e.items.l.length : Nat) : Int) - 1))), (23, I ((e.items.l.length : Nat) : Int)), (22, .sl e.items.nl (e.items.l.map S_Item.D) (zsl e.items.nl 4) none), (21, .lref 0 0 3 0), (20, I x5), (7, I x5), (6, I ((i5 : Nat) : Int)), (19, I x5), (18, .ptr (I x5)), (17, I ((i5 : Nat) : Int)), (16, B true), (1, .sl items.nl (items.l.map I) (zsl items.nl 1) none), (2, .lref 0 0 3 0), (13, .sl items.nl (items.l.map I) (zsl items.nl 1) none), (14, I ((items.l.length : Nat) : Int)), (15, I ((i5 : Nat) : Int))], [(0, ⟨[.agg [.sl e.items.nl (e.items.l.map S_Item.D) (zsl e.items.nl 4) none, I e.whole.lo, I e.whole.hi]], 3, false⟩)], 1, 0⟩

theorem T_orders_right (e : S_Estate) (items : GS Int) (hL_items : items.l.length ≤ 9223372036854775807) : (lim cfg).pure 71 [S_Estate.D e, GS.D I 1 items] = some (I (orders_right e items)) := by
  unfold orders_right
  cases h1 : ((zy e) != 0) with
  | true =>
    have g1 := bne_true h1
    exact zk [.pure (I (zy e)), .dec true] (And.intro h1 (And.intro (yb e) trivial)) (by kernel_rfl)
  | false =>
    have g1 := check_len (bne_false h1)
    cases h8 : orders_right_5 e items items.l 0 with
    | x0 =>
      try dsimp only
      exact zk [.pure (I (zy e)), .dec false, .rw 14 (I ((items.l.length : Nat) : Int)), .loop (.exit 0) (sd74 e items)] (And.intro (po_lr (q := lr_orders_right_5 e items) (lp_orders_right_5 e items items.l 0 (List.drop_zero) (Nat.zero_le _) (by omega)) h8) (And.intro (zu I items) (And.intro h1 (And.intro (yb e) trivial)))) (by kernel_rfl)
    | x1 i5 x5 =>
      try dsimp only
      exact zk [.pure (I (zy e)), .dec false, .rw 14 (I ((items.l.length : Nat) : Int)), .loop .ret (sd75 e items i5 x5)] (And.intro (po_lr (q := lr_orders_right_5 e items) (lp_orders_right_5 e items items.l 0 (List.drop_zero) (Nat.zero_le _) (by omega)) h8) (And.intro (zu I items) (And.intro h1 (And.intro (yb e) trivial)))) (by kernel_rfl)
    | x2 i5 x5 =>
      try dsimp only
      exact zk [.pure (I (zy e)), .dec false, .rw 14 (I ((items.l.length : Nat) : Int)), .loop .ret (sd76 e items i5 x5)] (And.intro (po_lr (q := lr_orders_right_5 e items) (lp_orders_right_5 e items items.l 0 (List.drop_zero) (Nat.zero_le _) (by omega)) h8) (And.intro (zu I items) (And.intro h1 (And.intro (yb e) trivial)))) (by kernel_rfl)

/-- Numbers that increase, above p and below n. -/
def inc (p n : Int) : List Int → Prop
  | [] => True
  | x :: l => p < x ∧ 0 ≤ x ∧ x < n ∧ inc x n l
theorem inc_mem : ∀ {p n : Int} {l : List Int}, inc p n l → ∀ x ∈ l, 0 ≤ x ∧ x < n
  | _, _, [], _, x, hx => by cases hx
  | p, n, y :: l, h, x, hx => by
    rcases List.mem_cons.1 hx with rfl | hx
    · exact ⟨h.2.1, h.2.2.1⟩
    · exact inc_mem h.2.2.2 x hx
theorem inc_len : ∀ {p n : Int} {l : List Int}, inc p n l → -1 ≤ p → l ≠ [] → (l.length : Int) ≤ n - p - 1
  | _, _, [], _, _, h => absurd rfl h
  | p, n, [y], h, _, _ => by have := h.1; have := h.2.2.1; simp; omega
  | p, n, y :: z :: l, h, hp, _ => by
    have := inc_len (l := z :: l) h.2.2.2 (by have := h.2.1; omega) (by simp)
    have := h.1
    simp only [List.length_cons] at *
    omega
theorem right5 {e : S_Estate} {items : GS Int} (hn : e.items.l.length ≤ 12) (hL : items.l.length ≤ 9223372036854775807) : ∀ (l : List Int) (i : Nat), items.l.drop i = l → (orders_right_5 e items l i = .x0 ↔ inc (if i = 0 then -1 else items.at ((i : Int) - 1)) (e.items.l.length : Int) l)
  | [], i, _ => by simp [orders_right_5, inc]
  | x :: l, i, hd => by
    have hlt := zt hd
    have hx : items.at (i : Int) = x := at_of hd
    unfold orders_right_5
    simp only [inc]
    cases h1 : zO x 0 (w64 (((e.items.l.length : Nat) : Int) - 1)) with
    | false =>
      simp only [cond_false]
      constructor
      · intro h; cases h
      · intro h
        exfalso
        have : zO x 0 (w64 (((e.items.l.length : Nat) : Int) - 1)) = true := by rw [within_eq, yi (by omega) (by omega)]; simp; omega
        rw [this] at h1; cases h1
    | true =>
      have h1' := within_t h1
      rw [yi (by omega) (by omega)] at h1'
      have ih := right5 (items := items) hn hL l (i + 1) (zA hd)
      rw [if_neg (by omega), show ((i + 1 : Nat) : Int) - 1 = (i : Int) by omega, hx] at ih
      simp only [cond_true]
      by_cases h0 : i = 0
      · subst h0
        have e0 : decide (((0 : Nat) : Int) > 0) = false := rfl
        rw [e0, if_pos rfl]
        simp only [cond_false, ih]
        constructor
        · intro h; exact ⟨by omega, by omega, by omega, h⟩
        · intro h; exact h.2.2.2
      · rw [if_neg h0, decide_eq_true (by omega : ((i : Nat) : Int) > 0)]
        simp only [cond_true]
        rw [yi (by omega) (by omega)]
        cases h2 : decide (items.at (((i : Nat) : Int) - 1) ≥ x) with
        | true =>
          have := of_decide_eq_true h2
          simp only [cond_true]
          constructor
          · intro h; cases h
          · intro h; omega
        | false =>
          have := of_decide_eq_false h2
          simp only [cond_false, ih]
          constructor
          · intro h; exact ⟨by omega, by omega, by omega, h⟩
          · intro h; exact h.2.2.2
theorem right_iff {e : S_Estate} {items : GS Int} (hL : items.l.length ≤ 9223372036854775807) : orders_right e items = 0 ↔ zy e = 0 ∧ inc (-1) (e.items.l.length : Int) items.l := by
  unfold orders_right
  cases h : (zy e != 0) with
  | true =>
    have := bne_true h
    simp only [cond_true]
    exact ⟨fun h => absurd h this, fun h => h.1⟩
  | false =>
    have h' := bne_false h
    have hl := check_len h'
    have k := right5 hl.2 hL items.l 0 List.drop_zero
    rw [if_pos rfl] at k
    simp only [cond_false]
    constructor
    · intro h1
      refine ⟨h', k.1 ?_⟩
      revert h1
      cases orders_right_5 e items items.l 0 <;> simp
    · intro h1
      rw [k.2 h1.2]
theorem right_ok {e : S_Estate} {items : GS Int} (hL : items.l.length ≤ 9223372036854775807) (h : orders_right e items = 0) : 1 ≤ e.items.l.length ∧ e.items.l.length ≤ 12 ∧ items.l.length ≤ 12 := by
  have h' := (right_iff hL).1 h
  have hl := check_len h'.1
  refine ⟨hl.1, hl.2, ?_⟩
  by_cases hn : items.l = []
  · rw [hn]; simp
  · have := inc_len h'.2 (by omega) hn
    omega
theorem right_all {e : S_Estate} {items : GS Int} (hL : items.l.length ≤ 9223372036854775807) (h : orders_right e items = 0) : ∀ i ∈ items.l, 0 ≤ i ∧ i < ((e.items.l.length : Nat) : Int) := inc_mem ((right_iff hL).1 h).2
end Go.VS

namespace Go.VS
open Go Go.Proofs
set_option maxHeartbeats 0
set_option linter.unusedSimpArgs false
set_option linter.unusedVariables false
noncomputable def lp66_3 : Code := subC [1, 1, 0, 1, 0, 0] (bodyC Try.f66)

def sd77 (e : S_Estate) (items : GS Int) (i3 : Nat) (x3 : Int) (va3_0 : List Int) : St := ⟨25, [(10, I ((i3 + 1 : Nat) : Int)), (23, I ((i3 + 1 : Nat) : Int)), (5, .lsl 3 0 ((va3_0 ++ [(zg (GS.at e.items x3))]).length) 1 none), (22, .lsl 3 0 ((va3_0 ++ [(zg (GS.at e.items x3))]).length) 1 none), (21, .lsl 2 0 1 1 (some 1)), (20, I (zg (GS.at e.items x3))), (19, .agg [I ((GS.at e.items x3).now.lo), I ((GS.at e.items x3).now.hi), I ((GS.at e.items x3).cost), I ((GS.at e.items x3).error)]), (18, .ptr (.agg [I ((GS.at e.items x3).now.lo), I ((GS.at e.items x3).now.hi), I ((GS.at e.items x3).cost), I ((GS.at e.items x3).error)])), (17, I x3), (16, .sl e.items.nl (e.items.l.map S_Item.D) (zsl e.items.nl 4) none), (15, .lref 0 0 3 0), (14, .lsl 1 0 va3_0.length 1 none), (7, I x3), (13, I x3), (12, .ptr (I x3)), (11, B true), (2, .lref 0 0 3 0), (5, .lsl 1 0 va3_0.length 1 none), (8, .sl items.nl (items.l.map I) (zsl items.nl 1) none), (9, I ((items.l.length : Nat) : Int)), (10, I ((i3 : Nat) : Int))], [(0, ⟨[.agg [.sl e.items.nl (e.items.l.map S_Item.D) (zsl e.items.nl 4) none, I e.whole.lo, I e.whole.hi]], 3, false⟩), (2, ⟨[I (zg (GS.at e.items x3))], 1, false⟩), (3, ⟨(va3_0 ++ [(zg (GS.at e.items x3))]).map I, 1, false⟩)], 4, 0⟩

inductive LR_orders_gains_3 where
  | x0 (va3_0 : List Int)
  | x1
instance : Inhabited LR_orders_gains_3 := ⟨.x0 default⟩
def orders_gains_3a (e : S_Estate) : List Int → (List Int) → LR_orders_gains_3
  | [], va3_0 => .x0 va3_0
  | x3 :: rest3, va3_0 =>
    orders_gains_3a e rest3 (va3_0 ++ [(zg (GS.at e.items x3))])
def orders_gains_3 (e : S_Estate) : List Int → LR_orders_gains_3
  | [] => .x1
  | x3 :: rest3 =>
    orders_gains_3a e rest3 [(zg (GS.at e.items x3))]
def lr_orders_gains_3 (e : S_Estate) (items : GS Int) : LR_orders_gains_3 → Exit × St
  | .x0 va3_0 => ((.exit 0), ⟨25, [(11, B false), (2, .lref 0 0 3 0), (5, .lsl 1 0 va3_0.length 1 none), (8, .sl items.nl (items.l.map I) (zsl items.nl 1) none), (9, I ((items.l.length : Nat) : Int)), (10, I ((items.l.length : Nat) : Int))], [(0, ⟨[.agg [.sl e.items.nl (e.items.l.map S_Item.D) (zsl e.items.nl 4) none, I e.whole.lo, I e.whole.hi]], 3, false⟩), (1, ⟨va3_0.map I, 1, false⟩)], 2, 0⟩)
  | .x1 => ((.exit 0), ⟨25, [(11, B false), (2, .lref 0 0 3 0), (5, .sl true [] 0 none), (8, .sl items.nl (items.l.map I) (zsl items.nl 1) none), (9, I ((items.l.length : Nat) : Int)), (10, I ((items.l.length : Nat) : Int))], [(0, ⟨[.agg [.sl e.items.nl (e.items.l.map S_Item.D) (zsl e.items.nl 4) none, I e.whole.lo, I e.whole.hi]], 3, false⟩)], 1, 0⟩)
def iv_orders_gains_3 (e : S_Estate) (items : GS Int) : LR_orders_gains_3 → Prop
  | .x0 va3_0 => (va3_0.length ≤ items.l.length)
  | .x1 => True
theorem lp_orders_gains_3a (e : S_Estate) (items : GS Int) : ∀ (rest3 : List Int) (i3 : Nat) (va3_0 : List Int) (hd3 : items.l.drop i3 = rest3) (hi3 : i3 ≤ items.l.length) (hall : ∀ i ∈ items.l, 0 ≤ i ∧ i < ((e.items.l.length : Nat) : Int)) (hg3_va3_0 : va3_0.length ≤ i3) (hL3 : items.l.length ≤ 1099511627776), (lim cfg).loop 66 lp66_3 ⟨25, [(2, .lref 0 0 3 0), (5, .lsl 1 0 va3_0.length 1 none), (8, .sl items.nl (items.l.map I) (zsl items.nl 1) none), (9, I ((items.l.length : Nat) : Int)), (10, I ((i3 : Nat) : Int))], [(0, ⟨[.agg [.sl e.items.nl (e.items.l.map S_Item.D) (zsl e.items.nl 4) none, I e.whole.lo, I e.whole.hi]], 3, false⟩), (1, ⟨va3_0.map I, 1, false⟩)], 2, 0⟩ = some (lr_orders_gains_3 e items (orders_gains_3a e rest3 va3_0)) := by
  intro rest3
  induction rest3 with
  | nil =>
    intro i3 va3_0 hd3 hi3 hall hg3_va3_0 hL3
    unfold orders_gains_3a
    obtain rfl : i3 = items.l.length := nil_eq hd3 hi3
    exact zS [.dec false] (And.intro (lt_no hd3) trivial) (by kernel_rfl)
  | cons x3 rest3 ih =>
    intro i3 va3_0 hd3 hi3 hall hg3_va3_0 hL3
    have hlt3 := zt hd3
    have hbx := hall x3 (mem_drop hd3)
    unfold orders_gains_3a
    exact po_turn' (ks := [2, 5, 8, 9, 10]) (st' := (sd77 e items i3 x3 va3_0)) [.dec true, .el (I x3), .el (.agg [I ((GS.at e.items x3).now.lo), I ((GS.at e.items x3).now.hi), I ((GS.at e.items x3).cost), I ((GS.at e.items x3).error)]), .pure (I (zg (GS.at e.items x3))), .op (some 22) ⟨.lsl 3 0 ((va3_0 ++ [(zg (GS.at e.items x3))]).length) 1 none, [(1, none), (3, some ⟨(va3_0 ++ [(zg (GS.at e.items x3))]).map I, 1, false⟩)], [1, 2], 4⟩, .rw 23 (I ((i3 + 1 : Nat) : Int))] (And.intro (zX (i := i3) (by have := zt hd3; omega)) (And.intro (app_row (f := I) (te := ty3) (gO := zD [(0, ⟨[.agg [.sl e.items.nl (e.items.l.map S_Item.D) (zsl e.items.nl 4) none, I e.whole.lo, I e.whole.hi]], 3, false⟩), (1, ⟨va3_0.map I, 1, false⟩), (2, ⟨[I (zg (GS.at e.items x3))], 1, false⟩)]) (nxt := 3) (o := 1) (o2 := 2) (fz := false) zl va3_0 (zg (GS.at e.items x3)) (by kernel_rfl) (by kernel_rfl) rfl (by kernel_rfl) (by decide) ⟨by simp only [ty3, big] <;> (first | assumption | omega | (simp only [zr] at * <;> omega) | (simp only [zo, zi, zj, GS.some_l, List.length_set, List.length_append, List.length_cons, List.length_nil] at * <;> first | with_reducible assumption | omega) | (simp only [zo, zi, zj, GS.some_l, List.length_set, List.length_append, List.length_cons, List.length_nil, zr] at * <;> first | with_reducible assumption | omega) | (simp at * <;> omega)), by simp only [big] <;> (first | assumption | omega | (simp only [zr] at * <;> omega) | (simp only [zo, zi, zj, GS.some_l, List.length_set, List.length_append, List.length_cons, List.length_nil] at * <;> first | with_reducible assumption | omega) | (simp only [zo, zi, zj, GS.some_l, List.length_set, List.length_append, List.length_cons, List.length_nil, zr] at * <;> first | with_reducible assumption | omega) | (simp at * <;> omega))⟩) (And.intro (T_orders_gain (GS.at e.items x3)) (And.intro (el_in (s := e.items) (f := S_Item.D) (k := 4) (i := x3) (by omega) (by omega)) (And.intro (el_at (s := items) (f := I) (k := 1) hd3) (And.intro (lt_at hd3) trivial)))))) (by kernel_rfl) (by (simp only [sd77, go_sem, List.length_set, Nat.reduceAdd, Nat.reduceEqDiff, Nat.reduceLT, Nat.reduceLeDiff, bI2, zl.idsL, zl.renL, zl.snapAll, z8.idsL, z8.renL, z8.snapAll]) <;> rfl) (ih (i3 + 1) (va3_0 ++ [(zg (GS.at e.items x3))]) (zA hd3) (zt hd3) (by omega) (by simp only [List.length_append, List.length_cons, List.length_nil] at * <;> omega) (by omega)) (by kernel_rfl)
theorem ivt_orders_gains_3a (e : S_Estate) (items : GS Int) : ∀ (rest3 : List Int) (i3 : Nat) (va3_0 : List Int) (hd3 : items.l.drop i3 = rest3) (hi3 : i3 ≤ items.l.length) (hall : ∀ i ∈ items.l, 0 ≤ i ∧ i < ((e.items.l.length : Nat) : Int)) (hg3_va3_0 : va3_0.length ≤ i3) (hL3 : items.l.length ≤ 1099511627776), iv_orders_gains_3 e items (orders_gains_3a e rest3 va3_0) := by
  intro rest3
  induction rest3 with
  | nil =>
    intro i3 va3_0 hd3 hi3 hall hg3_va3_0 hL3
    unfold orders_gains_3a
    obtain rfl : i3 = items.l.length := nil_eq hd3 hi3
    exact hg3_va3_0
  | cons x3 rest3 ih =>
    intro i3 va3_0 hd3 hi3 hall hg3_va3_0 hL3
    have hlt3 := zt hd3
    have hbx := hall x3 (mem_drop hd3)
    unfold orders_gains_3a
    exact ih (i3 + 1) (va3_0 ++ [(zg (GS.at e.items x3))]) (zA hd3) (zt hd3) (by omega) (by simp only [List.length_append, List.length_cons, List.length_nil] at * <;> omega) (by omega)
theorem lp_orders_gains_3 (e : S_Estate) (items : GS Int) : ∀ (rest3 : List Int) (i3 : Nat) (hd3 : items.l.drop i3 = rest3) (hi3 : i3 ≤ items.l.length) (hall : ∀ i ∈ items.l, 0 ≤ i ∧ i < ((e.items.l.length : Nat) : Int)) (hL3 : items.l.length ≤ 1099511627776), (lim cfg).loop 66 lp66_3 ⟨25, [(2, .lref 0 0 3 0), (5, .sl true [] 0 none), (8, .sl items.nl (items.l.map I) (zsl items.nl 1) none), (9, I ((items.l.length : Nat) : Int)), (10, I ((i3 : Nat) : Int))], [(0, ⟨[.agg [.sl e.items.nl (e.items.l.map S_Item.D) (zsl e.items.nl 4) none, I e.whole.lo, I e.whole.hi]], 3, false⟩)], 1, 0⟩ = some (lr_orders_gains_3 e items (orders_gains_3 e rest3)) := by
  intro rest3
  induction rest3 with
  | nil =>
    intro i3 hd3 hi3 hall hL3
    unfold orders_gains_3
    obtain rfl : i3 = items.l.length := nil_eq hd3 hi3
    exact zS [.dec false] (And.intro (lt_no hd3) trivial) (by kernel_rfl)
  | cons x3 rest3 ih =>
    intro i3 hd3 hi3 hall hL3
    have hlt3 := zt hd3
    have hbx := hall x3 (mem_drop hd3)
    unfold orders_gains_3
    dsimp only
    exact po_turn [.dec true, .el (I x3), .el (.agg [I ((GS.at e.items x3).now.lo), I ((GS.at e.items x3).now.hi), I ((GS.at e.items x3).cost), I ((GS.at e.items x3).error)]), .pure (I (zg (GS.at e.items x3))), .rw 23 (I ((i3 + 1 : Nat) : Int))] (And.intro (zX (i := i3) (by have := zt hd3; omega)) (And.intro (T_orders_gain (GS.at e.items x3)) (And.intro (el_in (s := e.items) (f := S_Item.D) (k := 4) (i := x3) (by omega) (by omega)) (And.intro (el_at (s := items) (f := I) (k := 1) hd3) (And.intro (lt_at hd3) trivial))))) (lp_orders_gains_3a e items _ (i3 + 1) [(zg (GS.at e.items x3))] (zA hd3) (zt hd3) (by omega) (by simp only [List.length_append, List.length_cons, List.length_nil] at * <;> omega) (by omega)) (by kernel_rfl)
theorem ivt_orders_gains_3 (e : S_Estate) (items : GS Int) : ∀ (rest3 : List Int) (i3 : Nat) (hd3 : items.l.drop i3 = rest3) (hi3 : i3 ≤ items.l.length) (hall : ∀ i ∈ items.l, 0 ≤ i ∧ i < ((e.items.l.length : Nat) : Int)) (hL3 : items.l.length ≤ 1099511627776), iv_orders_gains_3 e items (orders_gains_3 e rest3) := by
  intro rest3
  induction rest3 with
  | nil =>
    intro i3 hd3 hi3 hall hL3
    unfold orders_gains_3
    obtain rfl : i3 = items.l.length := nil_eq hd3 hi3
    exact trivial
  | cons x3 rest3 ih =>
    intro i3 hd3 hi3 hall hL3
    have hlt3 := zt hd3
    have hbx := hall x3 (mem_drop hd3)
    unfold orders_gains_3
    dsimp only
    exact ivt_orders_gains_3a e items _ (i3 + 1) [(zg (GS.at e.items x3))] (zA hd3) (zt hd3) (by omega) (by simp only [List.length_append, List.length_cons, List.length_nil] at * <;> omega) (by omega)

def zB (e : S_Estate) (items : GS Int) : (GS Int) :=
  match orders_gains_3 e items.l with
  | .x0 va3_0 =>
    GS.some va3_0
  | .x1 =>
    GS.nil

def sd78 (e : S_Estate) (items : GS Int) (va3_0 : List Int) : St := ⟨25, [(11, B false), (2, .lref 0 0 3 0), (5, .lsl 1 0 va3_0.length 1 none), (8, .sl items.nl (items.l.map I) (zsl items.nl 1) none), (9, I ((items.l.length : Nat) : Int)), (10, I ((items.l.length : Nat) : Int))], [(0, ⟨[.agg [.sl e.items.nl (e.items.l.map S_Item.D) (zsl e.items.nl 4) none, I e.whole.lo, I e.whole.hi]], 3, false⟩), (1, ⟨va3_0.map I, 1, false⟩)], 2, 0⟩

def sd79 (e : S_Estate) (items : GS Int) : St := ⟨25, [(11, B false), (2, .lref 0 0 3 0), (5, .sl true [] 0 none), (8, .sl items.nl (items.l.map I) (zsl items.nl 1) none), (9, I ((items.l.length : Nat) : Int)), (10, I ((items.l.length : Nat) : Int))], [(0, ⟨[.agg [.sl e.items.nl (e.items.l.map S_Item.D) (zsl e.items.nl 4) none, I e.whole.lo, I e.whole.hi]], 3, false⟩)], 1, 0⟩

theorem T_orders_gains (e : S_Estate) (items : GS Int) (hall : ∀ i ∈ items.l, 0 ≤ i ∧ i < ((e.items.l.length : Nat) : Int)) (hL_items : items.l.length ≤ 1099511627776) : (lim cfg).pure 66 [S_Estate.D e, GS.D I 1 items] = some (GS.D I 1 (zB e items)) := by
  unfold zB
  cases h1 : orders_gains_3 e items.l with
  | x0 va3_0 =>
    try dsimp only
    have hv_h1 := ivt_orders_gains_3 e items items.l 0 (List.drop_zero) (Nat.zero_le _) (by omega) (by omega)
    rw [h1] at hv_h1
    have hv_h1_0 := hv_h1
    try dsimp only [iv_orders_gains_3] at hv_h1_0
    exact po_pureS [.rw 9 (I ((items.l.length : Nat) : Int)), .loop (.exit 0) (sd78 e items va3_0)] [(1, .sl false (va3_0.map I) 1 none, [1])] (And.intro (snap_row (gO := zD [(0, ⟨[.agg [.sl e.items.nl (e.items.l.map S_Item.D) (zsl e.items.nl 4) none, I e.whole.lo, I e.whole.hi]], 3, false⟩), (1, ⟨va3_0.map I, 1, false⟩)]) (o := 1) (len := va3_0.length) (cap := none) (fz := false) zl va3_0 (by kernel_rfl) (by omega)) (And.intro (po_lr (q := lr_orders_gains_3 e items) (lp_orders_gains_3 e items items.l 0 (List.drop_zero) (Nat.zero_le _) (by omega) (by omega)) h1) (And.intro (zu I items) trivial))) (by kernel_rfl)
  | x1 =>
    try dsimp only
    exact zk [.rw 9 (I ((items.l.length : Nat) : Int)), .loop (.exit 0) (sd79 e items)] (And.intro (po_lr (q := lr_orders_gains_3 e items) (lp_orders_gains_3 e items items.l 0 (List.drop_zero) (Nat.zero_le _) (by omega) (by omega)) h1) (And.intro (zu I items) trivial)) (by kernel_rfl)

theorem gains_l (e : S_Estate) (items : GS Int) : (zB e items).l = items.l.map (fun i => zg (e.items.at i)) ∧ (zB e items).nl = items.l.isEmpty := by
  have key : ∀ (l v : List Int), orders_gains_3a e l v = .x0 (v ++ l.map (fun i => zg (e.items.at i))) := by
    intro l
    induction l with
    | nil => intro v; simp [orders_gains_3a]
    | cons x l ih => intro v; rw [orders_gains_3a, ih]; simp
  unfold zB
  cases items.l with
  | nil => exact ⟨rfl, rfl⟩
  | cons x l => rw [orders_gains_3, key]; exact ⟨rfl, rfl⟩
theorem zj (e : S_Estate) (items : GS Int) : (zB e items).l.length = items.l.length := by rw [(gains_l e items).1, List.length_map]


def zw (e : S_Estate) (items : GS Int) : Int :=
  ((zY (zz e (zN (zB e items)))).1)

theorem T_orders_worst (e : S_Estate) (items : GS Int) (hall : ∀ i ∈ items.l, 0 ≤ i ∧ i < ((e.items.l.length : Nat) : Int)) (hL_items : items.l.length ≤ 1099511627776) (hL_e_items : e.items.l.length ≤ 9223372036854775807) : (lim cfg).pure 61 [S_Estate.D e, GS.D I 1 items] = some (I (zw e items)) := by
  unfold zw
  exact zk [.pure (.sl ((zB e items).nl) (((zB e items).l).map I) (zsl ((zB e items).nl) 1) none), .pure (I (zN (zB e items))), .pure (.agg [I ((zz e (zN (zB e items))).at_.lo), I ((zz e (zN (zB e items))).at_.hi), I ((zz e (zN (zB e items))).room_), I ((zz e (zN (zB e items))).whole_.lo), I ((zz e (zN (zB e items))).whole_.hi)]), .pure (.tup [I ((zY (zz e (zN (zB e items)))).1), I ((zY (zz e (zN (zB e items)))).2)])] (And.intro (T_orders_window_widest (zz e (zN (zB e items)))) (And.intro (T_orders_windowOf e (zN (zB e items)) (by omega)) (And.intro (T_orders_total (zB e items) (by simp only [zo, zi, zj, GS.some_l, List.length_set, List.length_append, List.length_cons, List.length_nil] at * <;> first | with_reducible assumption | omega)) (And.intro (T_orders_gains e items (by omega) (by omega)) trivial)))) (by kernel_rfl)

def zG (e : S_Estate) (items : GS Int) : Int × Int :=
  bif ((orders_right e items) != 0) then
    (0, (orders_right e items))
  else
    ((zw e items), 0)

theorem T_orders_Worst (e : S_Estate) (items : GS Int) (hL : items.l.length ≤ 9223372036854775807) : (lim cfg).pure 26 [S_Estate.D e, GS.D I 1 items] = some (.tup [I ((zG e items).1), I ((zG e items).2)]) := by
  unfold zG
  cases h1 : ((orders_right e items) != 0) with
  | true =>
    have g1 := bne_true h1
    exact zk [.pure (I (orders_right e items)), .dec true] (And.intro h1 (And.intro (T_orders_right e items (by omega)) trivial)) (by kernel_rfl)
  | false =>
    obtain ⟨g1, gb1⟩ := And.intro (right_ok (by assumption) (bne_false h1)) (right_all (by assumption) (bne_false h1))
    exact zk [.pure (I (orders_right e items)), .dec false, .pure (I (zw e items))] (And.intro (T_orders_worst e items (by omega) (by omega) (by omega)) (And.intro h1 (And.intro (T_orders_right e items (by omega)) trivial))) (by kernel_rfl)

noncomputable def lp69_3 : Code := subC [1, 1, 0, 1, 0, 0] (bodyC Try.f69)

inductive LR_orders_cost_3 where
  | x0 (v3_0 : Int)
instance : Inhabited LR_orders_cost_3 := ⟨.x0 default⟩
def orders_cost_3 (e : S_Estate) : List Int → Int → LR_orders_cost_3
  | [], v3_0 => .x0 v3_0
  | x3 :: rest3, v3_0 =>
    orders_cost_3 e rest3 (w64 (v3_0 + ((GS.at e.items x3).cost)))
def lr_orders_cost_3 (e : S_Estate) (items : GS Int) : LR_orders_cost_3 → Exit × St
  | .x0 v3_0 => ((.exit 0), ⟨24, [(11, B false), (2, .lref 0 0 3 0), (5, I v3_0), (8, .sl items.nl (items.l.map I) (zsl items.nl 1) none), (9, I ((items.l.length : Nat) : Int)), (10, I ((items.l.length : Nat) : Int))], [(0, ⟨[.agg [.sl e.items.nl (e.items.l.map S_Item.D) (zsl e.items.nl 4) none, I e.whole.lo, I e.whole.hi]], 3, false⟩)], 1, 0⟩)
theorem lp_orders_cost_3 (e : S_Estate) (items : GS Int) : ∀ (rest3 : List Int) (i3 : Nat) (v3_0 : Int) (hd3 : items.l.drop i3 = rest3) (hi3 : i3 ≤ items.l.length) (hall : ∀ i ∈ items.l, 0 ≤ i ∧ i < ((e.items.l.length : Nat) : Int)) (hL3 : items.l.length ≤ 9223372036854775807), (lim cfg).loop 69 lp69_3 ⟨24, [(2, .lref 0 0 3 0), (5, I v3_0), (8, .sl items.nl (items.l.map I) (zsl items.nl 1) none), (9, I ((items.l.length : Nat) : Int)), (10, I ((i3 : Nat) : Int))], [(0, ⟨[.agg [.sl e.items.nl (e.items.l.map S_Item.D) (zsl e.items.nl 4) none, I e.whole.lo, I e.whole.hi]], 3, false⟩)], 1, 0⟩ = some (lr_orders_cost_3 e items (orders_cost_3 e rest3 v3_0)) := by
  intro rest3
  induction rest3 with
  | nil =>
    intro i3 v3_0 hd3 hi3 hall hL3
    unfold orders_cost_3
    obtain rfl : i3 = items.l.length := nil_eq hd3 hi3
    exact zS [.dec false] (And.intro (lt_no hd3) trivial) (by kernel_rfl)
  | cons x3 rest3 ih =>
    intro i3 v3_0 hd3 hi3 hall hL3
    have hlt3 := zt hd3
    have hbx := hall x3 (mem_drop hd3)
    unfold orders_cost_3
    exact po_turn [.dec true, .el (I x3), .el (.agg [I ((GS.at e.items x3).now.lo), I ((GS.at e.items x3).now.hi), I ((GS.at e.items x3).cost), I ((GS.at e.items x3).error)]), .rw 22 (I ((i3 + 1 : Nat) : Int))] (And.intro (zX (i := i3) (by have := zt hd3; omega)) (And.intro (el_in (s := e.items) (f := S_Item.D) (k := 4) (i := x3) (by omega) (by omega)) (And.intro (el_at (s := items) (f := I) (k := 1) hd3) (And.intro (lt_at hd3) trivial)))) (ih (i3 + 1) (w64 (v3_0 + ((GS.at e.items x3).cost))) (zA hd3) (zt hd3) (by omega) (by omega)) (by kernel_rfl)

def zp (e : S_Estate) (items : GS Int) : Int :=
  match orders_cost_3 e items.l 0 with
  | .x0 v3_0 =>
    v3_0

def sd80 (e : S_Estate) (items : GS Int) (v3_0 : Int) : St := ⟨24, [(11, B false), (2, .lref 0 0 3 0), (5, I v3_0), (8, .sl items.nl (items.l.map I) (zsl items.nl 1) none), (9, I ((items.l.length : Nat) : Int)), (10, I ((items.l.length : Nat) : Int))], [(0, ⟨[.agg [.sl e.items.nl (e.items.l.map S_Item.D) (zsl e.items.nl 4) none, I e.whole.lo, I e.whole.hi]], 3, false⟩)], 1, 0⟩

theorem T_orders_cost (e : S_Estate) (items : GS Int) (hall : ∀ i ∈ items.l, 0 ≤ i ∧ i < ((e.items.l.length : Nat) : Int)) (hL_items : items.l.length ≤ 9223372036854775807) : (lim cfg).pure 69 [S_Estate.D e, GS.D I 1 items] = some (I (zp e items)) := by
  unfold zp
  cases h1 : orders_cost_3 e items.l 0 with
  | x0 v3_0 =>
    try dsimp only
    exact zk [.rw 9 (I ((items.l.length : Nat) : Int)), .loop (.exit 0) (sd80 e items v3_0)] (And.intro (po_lr (q := lr_orders_cost_3 e items) (lp_orders_cost_3 e items items.l 0 0 (List.drop_zero) (Nat.zero_le _) (by omega) (by omega)) h1) (And.intro (zu I items) trivial)) (by kernel_rfl)

def zP (e : S_Estate) (items : GS Int) : Int × Int :=
  bif ((orders_right e items) != 0) then
    (0, (orders_right e items))
  else
    ((zp e items), 0)

theorem T_orders_Cost (e : S_Estate) (items : GS Int) (hL : items.l.length ≤ 9223372036854775807) : (lim cfg).pure 27 [S_Estate.D e, GS.D I 1 items] = some (.tup [I ((zP e items).1), I ((zP e items).2)]) := by
  unfold zP
  cases h1 : ((orders_right e items) != 0) with
  | true =>
    have g1 := bne_true h1
    exact zk [.pure (I (orders_right e items)), .dec true] (And.intro h1 (And.intro (T_orders_right e items (by omega)) trivial)) (by kernel_rfl)
  | false =>
    obtain ⟨g1, gb1⟩ := And.intro (right_ok (by assumption) (bne_false h1)) (right_all (by assumption) (bne_false h1))
    exact zk [.pure (I (orders_right e items)), .dec false, .pure (I (zp e items))] (And.intro (T_orders_cost e items (by omega) (by omega)) (And.intro h1 (And.intro (T_orders_right e items (by omega)) trivial))) (by kernel_rfl)

inductive LR_orders_shown_3 where
  | x0 (va3_0 : Int) (va3_1 : List Int)
  | x1
instance : Inhabited LR_orders_shown_3 := ⟨.x0 default default⟩
def orders_shown_3a (e : S_Estate) (s : Int) : List Int → Int → (List Int) → LR_orders_shown_3
  | [], va3_0, va3_1 => .x0 va3_0 va3_1
  | x3 :: rest3, va3_0, va3_1 =>
    orders_shown_3a e s rest3 (w64 (va3_0 - (imin va3_0 (zg (GS.at e.items x3))))) (va3_1 ++ [w64 ((w64 (((GS.at e.items x3).now.lo) + ((GS.at e.items x3).error))) + (imin va3_0 (zg (GS.at e.items x3))))])
def orders_shown_3 (e : S_Estate) (s : Int) : List Int → LR_orders_shown_3
  | [] => .x1
  | x3 :: rest3 =>
    orders_shown_3a e s rest3 (w64 (s - (imin s (zg (GS.at e.items x3))))) [w64 ((w64 (((GS.at e.items x3).now.lo) + ((GS.at e.items x3).error))) + (imin s (zg (GS.at e.items x3))))]
def orders_shown (e : S_Estate) (items : GS Int) (s : Int) : (GS Int) :=
  match orders_shown_3 e s items.l with
  | .x0 va3_0 va3_1 =>
    GS.some va3_1
  | .x1 =>
    GS.nil

noncomputable def lp67_3 : Code := subC [1, 1, 0, 1, 0, 0] (bodyC Try.f67)

def sd84 (n : Int) (i3 : Nat) (va3_0 : List Int) : St := ⟨15, [(6, I ((i3 + 1 : Nat) : Int)), (13, I ((i3 + 1 : Nat) : Int)), (3, .lsl 2 0 ((va3_0 ++ [((i3 : Nat) : Int)]).length) 1 none), (12, .lsl 2 0 ((va3_0 ++ [((i3 : Nat) : Int)]).length) 1 none), (11, .lsl 1 0 1 1 (some 1)), (10, I ((i3 : Nat) : Int)), (9, .lsl 0 0 va3_0.length 1 none), (4, I ((i3 : Nat) : Int)), (8, I ((i3 : Nat) : Int)), (7, B true), (3, .lsl 0 0 va3_0.length 1 none), (5, I n), (6, I ((i3 : Nat) : Int))], [(1, ⟨[I ((i3 : Nat) : Int)], 1, false⟩), (2, ⟨(va3_0 ++ [((i3 : Nat) : Int)]).map I, 1, false⟩)], 3, 0⟩

inductive LR_orders_numbers_3 where
  | x0 (i3 : Nat) (va3_0 : List Int)
  | x1 (i3 : Nat)
instance : Inhabited LR_orders_numbers_3 := ⟨.x0 default default⟩
def orders_numbers_3a : Nat → Nat → (List Int) → LR_orders_numbers_3
  | 0, i3, va3_0 => .x0 i3 va3_0
  | rest3 + 1, i3, va3_0 =>
    orders_numbers_3a rest3 (i3 + 1) (va3_0 ++ [((i3 : Nat) : Int)])
def orders_numbers_3 : Nat → Nat → LR_orders_numbers_3
  | 0, i3 => .x1 i3
  | rest3 + 1, i3 =>
    orders_numbers_3a rest3 (i3 + 1) [((i3 : Nat) : Int)]
def lr_orders_numbers_3 (n : Int) : LR_orders_numbers_3 → Exit × St
  | .x0 i3 va3_0 => ((.exit 0), ⟨15, [(7, B false), (3, .lsl 0 0 va3_0.length 1 none), (5, I n), (6, I ((i3 : Nat) : Int))], [(0, ⟨va3_0.map I, 1, false⟩)], 1, 0⟩)
  | .x1 i3 => ((.exit 0), ⟨15, [(7, B false), (3, .sl true [] 0 none), (5, I n), (6, I ((i3 : Nat) : Int))], [], 0, 0⟩)
def iv_orders_numbers_3 (n : Int) : LR_orders_numbers_3 → Prop
  | .x0 i3 va3_0 => (va3_0.length ≤ i3)
  | .x1 i3 => True
theorem lp_orders_numbers_3a (n : Int) : ∀ (rest3 : Nat) (i3 : Nat) (va3_0 : List Int) (hk3 : (n - ((i3 : Nat) : Int)).toNat = rest3) (hN3 : n ≤ 9223372036854775807) (hn : n ≤ 1099511627776) (hg3_va3_0 : va3_0.length ≤ i3) (hL3 : n ≤ 1099511627776), (lim cfg).loop 67 lp67_3 ⟨15, [(3, .lsl 0 0 va3_0.length 1 none), (5, I n), (6, I ((i3 : Nat) : Int))], [(0, ⟨va3_0.map I, 1, false⟩)], 1, 0⟩ = some (lr_orders_numbers_3 n (orders_numbers_3a rest3 i3 va3_0)) := by
  intro rest3
  induction rest3 with
  | zero =>
    intro i3 va3_0 hk3 hN3 hn hg3_va3_0 hL3
    unfold orders_numbers_3a
    exact zS [.dec false] (And.intro (ct_no hk3) trivial) (by kernel_rfl)
  | succ rest3 ih =>
    intro i3 va3_0 hk3 hN3 hn hg3_va3_0 hL3
    have hlt3 := of_decide_eq_true (ct_at hk3)
    unfold orders_numbers_3a
    exact po_turn' (ks := [3, 5, 6]) (st' := (sd84 n i3 va3_0)) [.dec true, .op (some 12) ⟨.lsl 2 0 ((va3_0 ++ [((i3 : Nat) : Int)]).length) 1 none, [(0, none), (2, some ⟨(va3_0 ++ [((i3 : Nat) : Int)]).map I, 1, false⟩)], [0, 1], 3⟩, .rw 13 (I ((i3 + 1 : Nat) : Int))] (And.intro (zX (i := i3) (by omega)) (And.intro (app_row (f := I) (te := ty3) (gO := zD [(0, ⟨va3_0.map I, 1, false⟩), (1, ⟨[I ((i3 : Nat) : Int)], 1, false⟩)]) (nxt := 2) (o := 0) (o2 := 1) (fz := false) zl va3_0 ((i3 : Nat) : Int) (by kernel_rfl) (by kernel_rfl) rfl (by kernel_rfl) (by decide) ⟨by simp only [ty3, big] <;> (first | assumption | omega | (simp only [zr] at * <;> omega) | (simp only [zo, zi, zj, GS.some_l, List.length_set, List.length_append, List.length_cons, List.length_nil] at * <;> first | with_reducible assumption | omega) | (simp only [zo, zi, zj, GS.some_l, List.length_set, List.length_append, List.length_cons, List.length_nil, zr] at * <;> first | with_reducible assumption | omega) | (simp at * <;> omega)), by simp only [big] <;> (first | assumption | omega | (simp only [zr] at * <;> omega) | (simp only [zo, zi, zj, GS.some_l, List.length_set, List.length_append, List.length_cons, List.length_nil] at * <;> first | with_reducible assumption | omega) | (simp only [zo, zi, zj, GS.some_l, List.length_set, List.length_append, List.length_cons, List.length_nil, zr] at * <;> first | with_reducible assumption | omega) | (simp at * <;> omega))⟩) (And.intro (ct_at hk3) trivial))) (by kernel_rfl) (by (simp only [sd84, go_sem, List.length_set, Nat.reduceAdd, Nat.reduceEqDiff, Nat.reduceLT, Nat.reduceLeDiff, bI2, zl.idsL, zl.renL, zl.snapAll, z8.idsL, z8.renL, z8.snapAll]) <;> rfl) (ih (i3 + 1) (va3_0 ++ [((i3 : Nat) : Int)]) (by omega) hN3 (by omega) (by simp only [List.length_append, List.length_cons, List.length_nil] at * <;> omega) (by omega)) (by kernel_rfl)
theorem ivt_orders_numbers_3a (n : Int) : ∀ (rest3 : Nat) (i3 : Nat) (va3_0 : List Int) (hk3 : (n - ((i3 : Nat) : Int)).toNat = rest3) (hN3 : n ≤ 9223372036854775807) (hn : n ≤ 1099511627776) (hg3_va3_0 : va3_0.length ≤ i3) (hL3 : n ≤ 1099511627776), iv_orders_numbers_3 n (orders_numbers_3a rest3 i3 va3_0) := by
  intro rest3
  induction rest3 with
  | zero =>
    intro i3 va3_0 hk3 hN3 hn hg3_va3_0 hL3
    unfold orders_numbers_3a
    exact hg3_va3_0
  | succ rest3 ih =>
    intro i3 va3_0 hk3 hN3 hn hg3_va3_0 hL3
    have hlt3 := of_decide_eq_true (ct_at hk3)
    unfold orders_numbers_3a
    exact ih (i3 + 1) (va3_0 ++ [((i3 : Nat) : Int)]) (by omega) hN3 (by omega) (by simp only [List.length_append, List.length_cons, List.length_nil] at * <;> omega) (by omega)
theorem lp_orders_numbers_3 (n : Int) : ∀ (rest3 : Nat) (i3 : Nat) (hk3 : (n - ((i3 : Nat) : Int)).toNat = rest3) (hN3 : n ≤ 9223372036854775807) (hn : n ≤ 1099511627776) (hL3 : n ≤ 1099511627776), (lim cfg).loop 67 lp67_3 ⟨15, [(3, .sl true [] 0 none), (5, I n), (6, I ((i3 : Nat) : Int))], [], 0, 0⟩ = some (lr_orders_numbers_3 n (orders_numbers_3 rest3 i3)) := by
  intro rest3
  induction rest3 with
  | zero =>
    intro i3 hk3 hN3 hn hL3
    unfold orders_numbers_3
    exact zS [.dec false] (And.intro (ct_no hk3) trivial) (by kernel_rfl)
  | succ rest3 ih =>
    intro i3 hk3 hN3 hn hL3
    have hlt3 := of_decide_eq_true (ct_at hk3)
    unfold orders_numbers_3
    dsimp only
    exact po_turn [.dec true, .rw 13 (I ((i3 + 1 : Nat) : Int))] (And.intro (zX (i := i3) (by omega)) (And.intro (ct_at hk3) trivial)) (lp_orders_numbers_3a n _ (i3 + 1) [((i3 : Nat) : Int)] (by omega) hN3 (by omega) (by simp only [List.length_append, List.length_cons, List.length_nil] at * <;> omega) (by omega)) (by kernel_rfl)
theorem ivt_orders_numbers_3 (n : Int) : ∀ (rest3 : Nat) (i3 : Nat) (hk3 : (n - ((i3 : Nat) : Int)).toNat = rest3) (hN3 : n ≤ 9223372036854775807) (hn : n ≤ 1099511627776) (hL3 : n ≤ 1099511627776), iv_orders_numbers_3 n (orders_numbers_3 rest3 i3) := by
  intro rest3
  induction rest3 with
  | zero =>
    intro i3 hk3 hN3 hn hL3
    unfold orders_numbers_3
    exact trivial
  | succ rest3 ih =>
    intro i3 hk3 hN3 hn hL3
    have hlt3 := of_decide_eq_true (ct_at hk3)
    unfold orders_numbers_3
    dsimp only
    exact ivt_orders_numbers_3a n _ (i3 + 1) [((i3 : Nat) : Int)] (by omega) hN3 (by omega) (by simp only [List.length_append, List.length_cons, List.length_nil] at * <;> omega) (by omega)

def y0 (n : Int) : (GS Int) :=
  match orders_numbers_3 (n - 0).toNat 0 with
  | .x0 i3 va3_0 =>
    GS.some va3_0
  | .x1 i3 =>
    GS.nil

theorem T_orders_numbers (n : Int) (hn : n ≤ 1099511627776) : (lim cfg).pure 67 [I n] = some (GS.D I 1 (y0 n)) := by
  unfold y0
  cases h1 : orders_numbers_3 (n - 0).toNat 0 with
  | x0 i3 va3_0 =>
    try dsimp only
    have hv_h1 := ivt_orders_numbers_3 n (n - 0).toNat 0 (by omega) (by omega) (by omega) (by omega)
    rw [h1] at hv_h1
    have hv_h1_0 := hv_h1
    try dsimp only [iv_orders_numbers_3] at hv_h1_0
    exact po_pureS [.loop (.exit 0) ⟨15, [(7, B false), (3, .lsl 0 0 va3_0.length 1 none), (5, I n), (6, I ((i3 : Nat) : Int))], [(0, ⟨va3_0.map I, 1, false⟩)], 1, 0⟩] [(0, .sl false (va3_0.map I) 1 none, [0])] (And.intro (snap_row (gO := zD [(0, ⟨va3_0.map I, 1, false⟩)]) (o := 0) (len := va3_0.length) (cap := none) (fz := false) zl va3_0 (by kernel_rfl) (by omega)) (And.intro (po_lr (q := lr_orders_numbers_3 n) (lp_orders_numbers_3 n (n - 0).toNat 0 (by omega) (by omega) (by omega) (by omega)) h1) trivial)) (by kernel_rfl)
  | x1 i3 =>
    try dsimp only
    exact zk [.loop (.exit 0) ⟨15, [(7, B false), (3, .sl true [] 0 none), (5, I n), (6, I ((i3 : Nat) : Int))], [], 0, 0⟩] (And.intro (po_lr (q := lr_orders_numbers_3 n) (lp_orders_numbers_3 n (n - 0).toNat 0 (by omega) (by omega) (by omega) (by omega)) h1) trivial) (by kernel_rfl)
end Go.VS

namespace Go.VS
open Go Go.Proofs
set_option maxHeartbeats 0
set_option linter.unusedSimpArgs false
set_option linter.unusedVariables false
def upto (n : Int) : List Int := (List.range n.toNat).map (fun i => ((i : Nat) : Int))
theorem upto_mem {n : Int} : ∀ i ∈ upto n, 0 ≤ i ∧ i < n := by
  intro i hi
  obtain ⟨j, hj, rfl⟩ := List.mem_map.1 hi
  have := List.mem_range.1 hj
  omega
theorem numbers_l (n : Int) : (y0 n).l = upto n ∧ (y0 n).nl = (upto n).isEmpty := by
  have key : ∀ (k i : Nat) (v : List Int), ∃ j, orders_numbers_3a k i v = .x0 j (v ++ (List.range' i k).map (fun i => ((i : Nat) : Int))) := by
    intro k
    induction k with
    | zero => intro i v; exact ⟨i, by simp [orders_numbers_3a]⟩
    | succ k ih => intro i v; obtain ⟨j, hj⟩ := ih (i + 1) (v ++ [((i : Nat) : Int)]); exact ⟨j, by rw [orders_numbers_3a, hj, List.range'_succ]; simp⟩
  unfold y0 upto
  rw [show n - 0 = n by omega]
  cases n.toNat with
  | zero => exact ⟨rfl, rfl⟩
  | succ k =>
    obtain ⟨j, hj⟩ := key k 1 [((0 : Nat) : Int)]
    rw [orders_numbers_3, hj, List.range_eq_range', List.range'_succ]
    exact ⟨rfl, rfl⟩
theorem y5 {n : Int} : ∀ i ∈ (y0 n).l, 0 ≤ i ∧ i < n := by rw [(numbers_l n).1]; exact upto_mem
theorem upto_len {n : Int} : (upto n).length = n.toNat := by unfold upto; simp
theorem zf {n : Int} : (y0 n).l.length = n.toNat := by rw [(numbers_l n).1, upto_len]

def orders_open (e : S_Estate) (items : GS Int) (low : Int) (high : Int) : (GS Int) × Bool :=
  bif decide ((ye ((zb (zz e (zN (zB e items)))).1) (w64 ((w64 (low + 1)) - ((zz e (zN (zB e items))).at_.hi)))) > ((zb (zz e (zN (zB e items)))).2)) then
    (GS.nil, false)
  else
    bif decide (((zh (zz e (zN (zB e items))) (ye ((zb (zz e (zN (zB e items)))).1) (w64 ((w64 (low + 1)) - ((zz e (zN (zB e items))).at_.hi))))).lo) ≥ high) then
      (GS.nil, false)
    else
      bif decide (((zh (zz e (zN (zB e items))) (ye ((zb (zz e (zN (zB e items)))).1) (w64 ((w64 (low + 1)) - ((zz e (zN (zB e items))).at_.hi))))).hi) ≤ low) then
        (GS.nil, false)
      else
        ((orders_shown e items (ye ((zb (zz e (zN (zB e items)))).1) (w64 ((w64 (low + 1)) - ((zz e (zN (zB e items))).at_.hi))))), true)

def orders_bounds (e : S_Estate) (items : GS Int) (low : Int) (high : Int) : Int :=
  bif ((orders_right e items) != 0) then
    (orders_right e items)
  else
    bif decide (low ≥ high) then
      1
    else
      bif decide (low < (-1099511627776)) then
        1
      else
        bif decide (high > 1099511627776) then
          1
        else
          0

def orders_Open (e : S_Estate) (items : GS Int) (low : Int) (high : Int) : (GS Int) × Bool × Int :=
  bif ((orders_bounds e items low high) != 0) then
    (GS.nil, false, (orders_bounds e items low high))
  else
    bif ((orders_open e items low high).2) then
      (((orders_open e items low high).1), true, 0)
    else
      (((orders_open e items low high).1), false, 0)

end Go.VS

namespace Go.VS
open Go Go.Proofs
set_option maxHeartbeats 0
set_option linter.unusedSimpArgs false
set_option linter.unusedVariables false
noncomputable def lp22_8 : Code := subC [1, 1, 1, 1, 1, 0, 0, 0] (bodyC Try.f22)

inductive LR_orders_Need_8 where
  | x0 (v8_0 : Int) (v8_1 : Int)
  | out
instance : Inhabited LR_orders_Need_8 := ⟨.out⟩
def orders_Need_8 (e : S_Estate) (width : Int) : Nat → Int → Int → LR_orders_Need_8
  | 0, _, _ => .out
  | rest8 + 1, v8_0, v8_1 =>
    bif decide (v8_0 < v8_1) then
      bif decide (((zY (zz e (w64 ((w64 (v8_0 + v8_1)).tdiv 2)))).1) ≤ width) then
        orders_Need_8 e width rest8 v8_0 (w64 ((w64 (v8_0 + v8_1)).tdiv 2))
      else
        orders_Need_8 e width rest8 (w64 ((w64 ((w64 (v8_0 + v8_1)).tdiv 2)) + 1)) v8_1
    else
      .x0 v8_0 v8_1
def lr_orders_Need_8 (e : S_Estate) (width : Int) : LR_orders_Need_8 → Exit × St
  | .x0 v8_0 v8_1 => ((.exit 0), ⟨58, [(30, B false), (29, I v8_1), (28, I v8_0), (1, I width), (2, .lref 0 0 3 0), (9, I v8_0), (10, I v8_1)], [(0, ⟨[.agg [.sl e.items.nl (e.items.l.map S_Item.D) (zsl e.items.nl 4) none, I e.whole.lo, I e.whole.hi]], 3, false⟩)], 1, 0⟩)
  | .out => (.normal, ⟨0, [], [], 0, 0⟩)
def orders_Need_8_f_o1 (e : S_Estate) (v8_0 : Int) (v8_1 : Int) : List Ora := [.dec true, .pure (.agg [I ((zz e (w64 ((w64 (v8_0 + v8_1)).tdiv 2))).at_.lo), I ((zz e (w64 ((w64 (v8_0 + v8_1)).tdiv 2))).at_.hi), I ((zz e (w64 ((w64 (v8_0 + v8_1)).tdiv 2))).room_), I ((zz e (w64 ((w64 (v8_0 + v8_1)).tdiv 2))).whole_.lo), I ((zz e (w64 ((w64 (v8_0 + v8_1)).tdiv 2))).whole_.hi)]), .pure (.tup [I ((zY (zz e (w64 ((w64 (v8_0 + v8_1)).tdiv 2)))).1), I ((zY (zz e (w64 ((w64 (v8_0 + v8_1)).tdiv 2)))).2)])]
theorem lp_orders_Need_8 (e : S_Estate) (width : Int) : ∀ (rest8 : Nat) (v8_0 : Int) (v8_1 : Int) (hf8 : orders_Need_8 e width rest8 v8_0 v8_1 ≠ .out) (hn : e.items.l.length ≤ 9223372036854775807), (lim cfg).loop 22 lp22_8 ⟨58, [(1, I width), (2, .lref 0 0 3 0), (9, I v8_0), (10, I v8_1)], [(0, ⟨[.agg [.sl e.items.nl (e.items.l.map S_Item.D) (zsl e.items.nl 4) none, I e.whole.lo, I e.whole.hi]], 3, false⟩)], 1, 0⟩ = some (lr_orders_Need_8 e width (orders_Need_8 e width rest8 v8_0 v8_1)) := by
  intro rest8
  induction rest8 with
  | zero =>
    intro v8_0 v8_1 hf8 hn
    exact absurd rfl hf8
  | succ rest8 ih =>
    intro v8_0 v8_1 hf8 hn
    unfold orders_Need_8 at hf8 ⊢
    revert hf8
    cases h5 : decide (v8_0 < v8_1) with
    | true =>
      have g5 := of_decide_eq_true h5
      have p1 := (T_orders_windowOf e (w64 ((w64 (v8_0 + v8_1)).tdiv 2)) (by omega))
      have p2 := (T_orders_window_widest (zz e (w64 ((w64 (v8_0 + v8_1)).tdiv 2))))
      cases h6 : decide (((zY (zz e (w64 ((w64 (v8_0 + v8_1)).tdiv 2)))).1) ≤ width) with
      | true =>
        have g6 := of_decide_eq_true h6
        intro hf8
        exact po_turn ((orders_Need_8_f_o1 e v8_0 v8_1) ++ [.dec true]) (And.intro h6 (And.intro p2 (And.intro p1 (And.intro h5 trivial)))) (ih v8_0 (w64 ((w64 (v8_0 + v8_1)).tdiv 2)) hf8 (by omega)) (by kernel_rfl)
      | false =>
        have g6 := of_decide_eq_false h6
        intro hf8
        exact po_turn ((orders_Need_8_f_o1 e v8_0 v8_1) ++ [.dec false]) (And.intro h6 (And.intro p2 (And.intro p1 (And.intro h5 trivial)))) (ih (w64 ((w64 ((w64 (v8_0 + v8_1)).tdiv 2)) + 1)) v8_1 hf8 (by omega)) (by kernel_rfl)
    | false =>
      have g5 := of_decide_eq_false h5
      intro hf8
      exact zS [.dec false] (And.intro h5 trivial) (by kernel_rfl)

theorem need_ne (e : S_Estate) (width : Int) : ∀ (n : Nat) (lo hi : Int), 0 ≤ lo → hi ≤ 2305843009213693952 → (hi - lo).toNat < n → orders_Need_8 e width n lo hi ≠ .out
  | 0, _, _, _, _, h => by omega
  | n + 1, lo, hi, h0, h1, h => by
    unfold orders_Need_8
    cases h2 : decide (lo < hi) with
    | false => simp
    | true =>
      have := of_decide_eq_true h2
      simp only [cond_true]
      have e1 : w64 (lo + hi) = lo + hi := yi (by omega) (by omega)
      have e2 : w64 ((lo + hi).tdiv 2) = (lo + hi).tdiv 2 := yi (by rw [Int.tdiv_eq_ediv_of_nonneg (by omega)]; omega) (by rw [Int.tdiv_eq_ediv_of_nonneg (by omega)]; omega)
      have e3 : w64 ((lo + hi).tdiv 2 + 1) = (lo + hi).tdiv 2 + 1 := yi (by rw [Int.tdiv_eq_ediv_of_nonneg (by omega)]; omega) (by rw [Int.tdiv_eq_ediv_of_nonneg (by omega)]; omega)
      rw [e1, e2, e3]
      rw [Int.tdiv_eq_ediv_of_nonneg (by omega)]
      cases decide ((zY (zz e ((lo + hi) / 2))).1 ≤ width) with
      | true => exact need_ne e width n _ _ h0 (by omega) (by omega)
      | false => exact need_ne e width n _ _ (by omega) h1 (by omega)
theorem need_ne' {e : S_Estate} {width : Int} (h : (zy e != 0) = false) : orders_Need_8 e width ((w64 ((zQ e).hi - (zQ e).lo) - 0).toNat + 1) 0 (w64 ((zQ e).hi - (zQ e).lo)) ≠ .out := by
  have hV := check_iff.1 (bne_false h)
  have hb := sums_bd hV.sp
  have := hV.n2
  rw [all_eq hV.sp hV.n2]
  simp only []
  rw [yi (by omega) (by omega)]
  exact need_ne e width _ _ _ (by omega) (by omega) (by omega)

def zC (e : S_Estate) (width : Int) : Int × Bool × Int :=
  bif ((zy e) != 0) then
    (0, false, (zy e))
  else
    bif decide (width < 0) then
      (0, false, 1)
    else
      match orders_Need_8 e width ((w64 (((zQ e).hi) - ((zQ e).lo)) - 0).toNat + 1) 0 (w64 (((zQ e).hi) - ((zQ e).lo))) with
      | .x0 v8_0 v8_1 =>
        bif decide ((zN (zB e (y0 ((e.items.l.length : Nat) : Int)))) ≥ v8_0) then
          (v8_0, true, 0)
        else
          (v8_0, false, 0)
      | .out =>
        default

def sd86 (e : S_Estate) (width : Int) (v8_0 : Int) (v8_1 : Int) : St := ⟨58, [(30, B false), (29, I v8_1), (28, I v8_0), (1, I width), (2, .lref 0 0 3 0), (9, I v8_0), (10, I v8_1)], [(0, ⟨[.agg [.sl e.items.nl (e.items.l.map S_Item.D) (zsl e.items.nl 4) none, I e.whole.lo, I e.whole.hi]], 3, false⟩)], 1, 0⟩

def orders_Need_o1 (e : S_Estate) (width : Int) (v8_0 : Int) (v8_1 : Int) : List Ora := [.pure (I (zy e)), .dec false, .dec false, .pure (.agg [I ((zQ e).lo), I ((zQ e).hi)]), .loop (.exit 0) (sd86 e width v8_0 v8_1), .rw 52 (I ((e.items.l.length : Nat) : Int)), .pure (.sl ((y0 ((e.items.l.length : Nat) : Int)).nl) (((y0 ((e.items.l.length : Nat) : Int)).l).map I) (zsl ((y0 ((e.items.l.length : Nat) : Int)).nl) 1) none), .pure (.sl ((zB e (y0 ((e.items.l.length : Nat) : Int))).nl) (((zB e (y0 ((e.items.l.length : Nat) : Int))).l).map I) (zsl ((zB e (y0 ((e.items.l.length : Nat) : Int))).nl) 1) none), .pure (I (zN (zB e (y0 ((e.items.l.length : Nat) : Int)))))]

theorem T_orders_Need (e : S_Estate) (width : Int) (hL_e_items : e.items.l.length ≤ 9223372036854775807) : (lim cfg).pure 22 [S_Estate.D e, I width] = some (.tup [I ((zC e width).1), B ((zC e width).2.1), I ((zC e width).2.2)]) := by
  unfold zC
  cases h1 : ((zy e) != 0) with
  | true =>
    have g1 := bne_true h1
    exact zk [.pure (I (zy e)), .dec true] (And.intro h1 (And.intro (yb e) trivial)) (by kernel_rfl)
  | false =>
    have g1 := check_len (bne_false h1)
    cases h2 : decide (width < 0) with
    | true =>
      have g2 := of_decide_eq_true h2
      exact zk [.pure (I (zy e)), .dec false, .dec true] (And.intro h2 (And.intro h1 (And.intro (yb e) trivial))) (by kernel_rfl)
    | false =>
      have g2 := of_decide_eq_false h2
      cases h7 : orders_Need_8 e width ((w64 (((zQ e).hi) - ((zQ e).lo)) - 0).toNat + 1) 0 (w64 (((zQ e).hi) - ((zQ e).lo))) with
      | x0 v8_0 v8_1 =>
        try dsimp only
        have p1 := (po_lr (q := lr_orders_Need_8 e width) (lp_orders_Need_8 e width ((w64 (((zQ e).hi) - ((zQ e).lo)) - 0).toNat + 1) 0 (w64 (((zQ e).hi) - ((zQ e).lo))) (need_ne' (e := e) (width := width) (by assumption)) (by omega)) h7)
        have p2 := (T_orders_numbers ((e.items.l.length : Nat) : Int) (by omega))
        have p3 := (T_orders_gains e (y0 ((e.items.l.length : Nat) : Int)) (by with_reducible exact y5) (by simp only [zo, zi, zj, zf, GS.some_l, List.length_set, List.length_append, List.length_cons, List.length_nil] at * <;> first | with_reducible assumption | omega))
        have p4 := (T_orders_total (zB e (y0 ((e.items.l.length : Nat) : Int))) (by simp only [zo, zi, zj, zf, GS.some_l, List.length_set, List.length_append, List.length_cons, List.length_nil] at * <;> first | with_reducible assumption | omega))
        cases h8 : decide ((zN (zB e (y0 ((e.items.l.length : Nat) : Int)))) ≥ v8_0) with
        | true =>
          have g8 := of_decide_eq_true h8
          exact zk ((orders_Need_o1 e width v8_0 v8_1) ++ [.dec true]) (And.intro h8 (And.intro p4 (And.intro p3 (And.intro p2 (And.intro (zu S_Item.D e.items) (And.intro p1 (And.intro (T_orders_all e (by omega)) (And.intro h2 (And.intro h1 (And.intro (yb e) trivial)))))))))) (by kernel_rfl)
        | false =>
          have g8 := of_decide_eq_false h8
          exact zk ((orders_Need_o1 e width v8_0 v8_1) ++ [.dec false]) (And.intro h8 (And.intro p4 (And.intro p3 (And.intro p2 (And.intro (zu S_Item.D e.items) (And.intro p1 (And.intro (T_orders_all e (by omega)) (And.intro h2 (And.intro h1 (And.intro (yb e) trivial)))))))))) (by kernel_rfl)
      | out =>
        exact absurd h7 (need_ne' (e := e) (width := width) (by assumption))
end Go.VS

namespace Go.VS
open Go Go.Proofs
set_option maxHeartbeats 0
set_option linter.unusedSimpArgs false
set_option linter.unusedVariables false
noncomputable def lp20_2 : Code := subC [1, 0, 1, 0, 0] (bodyC Try.f20)

inductive LR_r_Right_2 where
  | x0
  | x1 (i2 : Nat) (x2 : Int)
  | x2 (i2 : Nat) (x2 : Int)
  | x3 (i2 : Nat) (x2 : Int)
instance : Inhabited LR_r_Right_2 := ⟨.x0⟩
def r_Right_2 (e : S_Estate) (items : GS Int) : List Int → Nat → LR_r_Right_2
  | [], i2 => .x0
  | x2 :: rest2, i2 =>
    bif decide (x2 < 0) then
      .x1 i2 x2
    else
      bif decide (x2 ≥ ((e.items.l.length : Nat) : Int)) then
        .x2 i2 x2
      else
        bif decide (((i2 : Nat) : Int) > 0) then
          bif decide ((GS.at items (w64 (((i2 : Nat) : Int) - 1))) ≥ x2) then
            .x3 i2 x2
          else
            r_Right_2 e items rest2 (i2 + 1)
        else
          r_Right_2 e items rest2 (i2 + 1)
def lr_r_Right_2 (e : S_Estate) (items : GS Int) : LR_r_Right_2 → Exit × St
  | .x0 => ((.exit 0), ⟨43, [(9, B false), (8, I ((items.l.length : Nat) : Int)), (7, .sl items.nl (items.l.map I) (zsl items.nl 1) none), (6, I ((items.l.length : Nat) : Int)), (1, .sl items.nl (items.l.map I) (zsl items.nl 1) none), (2, .lref 0 0 3 0), (5, I ((items.l.length : Nat) : Int))], [(0, ⟨[.agg [.sl e.items.nl (e.items.l.map S_Item.D) (zsl e.items.nl 4) none, I e.whole.lo, I e.whole.hi]], 3, false⟩)], 1, 0⟩)
  | .x1 i2 x2 => (.ret, ⟨43, [(4, B false), (42, B true), (41, .tup []), (40, .tup []), (39, .tup []), (38, .tup []), (37, .tup []), (36, .tup []), (35, .tup []), (34, .tup []), (33, .tup []), (32, .tup []), (31, .tup []), (30, .tup []), (29, .tup []), (28, .tup []), (27, B true), (26, B true), (25, .tup []), (24, .tup []), (23, .tup []), (22, .tup []), (21, .tup []), (20, .tup []), (19, .tup []), (18, .tup []), (17, B true), (16, B true), (15, I x2), (14, .ptr (I x2)), (13, I ((i2 : Nat) : Int)), (12, .sl items.nl (items.l.map I) (zsl items.nl 1) none), (9, B true), (8, I ((items.l.length : Nat) : Int)), (7, .sl items.nl (items.l.map I) (zsl items.nl 1) none), (6, I ((i2 : Nat) : Int)), (1, .sl items.nl (items.l.map I) (zsl items.nl 1) none), (2, .lref 0 0 3 0), (5, I ((i2 : Nat) : Int))], [(0, ⟨[.agg [.sl e.items.nl (e.items.l.map S_Item.D) (zsl e.items.nl 4) none, I e.whole.lo, I e.whole.hi]], 3, false⟩)], 1, 0⟩)
  | .x2 i2 x2 => (.ret, ⟨43, [(4, B false), (42, B true), (41, .tup []), (40, .tup []), (39, .tup []), (38, .tup []), (37, .tup []), (36, .tup []), (35, .tup []), (34, .tup []), (33, .tup []), (32, .tup []), (31, .tup []), (30, .tup []), (29, .tup []), (28, .tup []), (27, B true), (26, B true), (25, B true), (24, I ((e.items.l.length : Nat) : Int)), (23, .sl e.items.nl (e.items.l.map S_Item.D) (zsl e.items.nl 4) none), (22, .lref 0 0 3 0), (21, I x2), (20, .ptr (I x2)), (19, I ((i2 : Nat) : Int)), (18, .sl items.nl (items.l.map I) (zsl items.nl 1) none), (17, B false), (16, B false), (15, I x2), (14, .ptr (I x2)), (13, I ((i2 : Nat) : Int)), (12, .sl items.nl (items.l.map I) (zsl items.nl 1) none), (9, B true), (8, I ((items.l.length : Nat) : Int)), (7, .sl items.nl (items.l.map I) (zsl items.nl 1) none), (6, I ((i2 : Nat) : Int)), (1, .sl items.nl (items.l.map I) (zsl items.nl 1) none), (2, .lref 0 0 3 0), (5, I ((i2 : Nat) : Int))], [(0, ⟨[.agg [.sl e.items.nl (e.items.l.map S_Item.D) (zsl e.items.nl 4) none, I e.whole.lo, I e.whole.hi]], 3, false⟩)], 1, 0⟩)
  | .x3 i2 x2 => (.ret, ⟨43, [(4, B false), (42, B true), (41, B true), (40, B true), (39, I x2), (38, .ptr (I x2)), (37, I ((i2 : Nat) : Int)), (36, .sl items.nl (items.l.map I) (zsl items.nl 1) none), (35, I (GS.at items (w64 (((i2 : Nat) : Int) - 1)))), (34, .ptr (I (GS.at items (w64 (((i2 : Nat) : Int) - 1))))), (33, I (w64 (((i2 : Nat) : Int) - 1))), (32, I ((i2 : Nat) : Int)), (31, .sl items.nl (items.l.map I) (zsl items.nl 1) none), (30, B true), (29, B true), (28, I ((i2 : Nat) : Int)), (27, B false), (26, B false), (25, B false), (24, I ((e.items.l.length : Nat) : Int)), (23, .sl e.items.nl (e.items.l.map S_Item.D) (zsl e.items.nl 4) none), (22, .lref 0 0 3 0), (21, I x2), (20, .ptr (I x2)), (19, I ((i2 : Nat) : Int)), (18, .sl items.nl (items.l.map I) (zsl items.nl 1) none), (17, B false), (16, B false), (15, I x2), (14, .ptr (I x2)), (13, I ((i2 : Nat) : Int)), (12, .sl items.nl (items.l.map I) (zsl items.nl 1) none), (9, B true), (8, I ((items.l.length : Nat) : Int)), (7, .sl items.nl (items.l.map I) (zsl items.nl 1) none), (6, I ((i2 : Nat) : Int)), (1, .sl items.nl (items.l.map I) (zsl items.nl 1) none), (2, .lref 0 0 3 0), (5, I ((i2 : Nat) : Int))], [(0, ⟨[.agg [.sl e.items.nl (e.items.l.map S_Item.D) (zsl e.items.nl 4) none, I e.whole.lo, I e.whole.hi]], 3, false⟩)], 1, 0⟩)
def r_Right_2_l_o1 (e : S_Estate) (items : GS Int) (x2 : Int) : List Ora := [.rw 8 (I ((items.l.length : Nat) : Int)), .dec true, .el (I x2), .dec false, .el (I x2), .rw 24 (I ((e.items.l.length : Nat) : Int))]
theorem lp_r_Right_2 (e : S_Estate) (items : GS Int) : ∀ (rest2 : List Int) (i2 : Nat) (hd2 : items.l.drop i2 = rest2) (hi2 : i2 ≤ items.l.length) (hL2 : items.l.length ≤ 9223372036854775807), (lim cfg).loop 20 lp20_2 ⟨43, [(1, .sl items.nl (items.l.map I) (zsl items.nl 1) none), (2, .lref 0 0 3 0), (5, I ((i2 : Nat) : Int))], [(0, ⟨[.agg [.sl e.items.nl (e.items.l.map S_Item.D) (zsl e.items.nl 4) none, I e.whole.lo, I e.whole.hi]], 3, false⟩)], 1, 0⟩ = some (lr_r_Right_2 e items (r_Right_2 e items rest2 i2)) := by
  intro rest2
  induction rest2 with
  | nil =>
    intro i2 hd2 hi2 hL2
    unfold r_Right_2
    obtain rfl : i2 = items.l.length := nil_eq hd2 hi2
    exact zS [.rw 8 (I ((items.l.length : Nat) : Int)), .dec false] (And.intro (lt_no hd2) (And.intro (zu I items) trivial)) (by kernel_rfl)
  | cons x2 rest2 ih =>
    intro i2 hd2 hi2 hL2
    have hlt2 := zt hd2
    unfold r_Right_2
    have p1 := (el_at (s := items) (f := I) (k := 1) hd2)
    cases h5 : decide (x2 < 0) with
    | true =>
      have g5 := of_decide_eq_true h5
      exact zS [.rw 8 (I ((items.l.length : Nat) : Int)), .dec true, .el (I x2), .dec true] (And.intro h5 (And.intro p1 (And.intro (lt_at hd2) (And.intro (zu I items) trivial)))) (by kernel_rfl)
    | false =>
      have g5 := of_decide_eq_false h5
      have p2 := (el_at (s := items) (f := I) (k := 1) hd2)
      cases h6 : decide (x2 ≥ ((e.items.l.length : Nat) : Int)) with
      | true =>
        have g6 := of_decide_eq_true h6
        exact zS ((r_Right_2_l_o1 e items x2) ++ [.dec true]) (And.intro h6 (And.intro (zu S_Item.D e.items) (And.intro p2 (And.intro h5 (And.intro p1 (And.intro (lt_at hd2) (And.intro (zu I items) trivial))))))) (by kernel_rfl)
      | false =>
        have g6 := of_decide_eq_false h6
        cases h7 : decide (((i2 : Nat) : Int) > 0) with
        | true =>
          have g7 := of_decide_eq_true h7
          have p3 := (el_in (s := items) (f := I) (k := 1) (i := w64 (((i2 : Nat) : Int) - 1)) (by simp only [zr] at * <;> omega) (by simp only [zr] at * <;> omega))
          have p4 := (el_at (s := items) (f := I) (k := 1) hd2)
          cases h8 : decide ((GS.at items (w64 (((i2 : Nat) : Int) - 1))) ≥ x2) with
          | true =>
            have g8 := of_decide_eq_true h8
            exact zS ((r_Right_2_l_o1 e items x2) ++ [.dec false, .dec true, .el (I (GS.at items (w64 (((i2 : Nat) : Int) - 1)))), .el (I x2), .dec true]) (And.intro h8 (And.intro p4 (And.intro p3 (And.intro h7 (And.intro h6 (And.intro (zu S_Item.D e.items) (And.intro p2 (And.intro h5 (And.intro p1 (And.intro (lt_at hd2) (And.intro (zu I items) trivial))))))))))) (by kernel_rfl)
          | false =>
            have g8 := of_decide_eq_false h8
            exact po_turn ((r_Right_2_l_o1 e items x2) ++ [.dec false, .dec true, .el (I (GS.at items (w64 (((i2 : Nat) : Int) - 1)))), .el (I x2), .dec false, .rw 11 (I ((i2 + 1 : Nat) : Int))]) (And.intro (zX (i := i2) (by have := zt hd2; omega)) (And.intro h8 (And.intro p4 (And.intro p3 (And.intro h7 (And.intro h6 (And.intro (zu S_Item.D e.items) (And.intro p2 (And.intro h5 (And.intro p1 (And.intro (lt_at hd2) (And.intro (zu I items) trivial)))))))))))) (ih (i2 + 1) (zA hd2) (zt hd2) (by omega)) (by kernel_rfl)
        | false =>
          have g7 := of_decide_eq_false h7
          exact po_turn ((r_Right_2_l_o1 e items x2) ++ [.dec false, .dec false, .rw 11 (I ((i2 + 1 : Nat) : Int))]) (And.intro (zX (i := i2) (by have := zt hd2; omega)) (And.intro h7 (And.intro h6 (And.intro (zu S_Item.D e.items) (And.intro p2 (And.intro h5 (And.intro p1 (And.intro (lt_at hd2) (And.intro (zu I items) trivial))))))))) (ih (i2 + 1) (zA hd2) (zt hd2) (by omega)) (by kernel_rfl)

def r_Right (e : S_Estate) (items : GS Int) : Bool :=
  match r_Right_2 e items items.l 0 with
  | .x0 =>
    true
  | .x1 i2 x2 =>
    false
  | .x2 i2 x2 =>
    false
  | .x3 i2 x2 =>
    false

def sd87 (e : S_Estate) (items : GS Int) : St := ⟨43, [(9, B false), (8, I ((items.l.length : Nat) : Int)), (7, .sl items.nl (items.l.map I) (zsl items.nl 1) none), (6, I ((items.l.length : Nat) : Int)), (1, .sl items.nl (items.l.map I) (zsl items.nl 1) none), (2, .lref 0 0 3 0), (5, I ((items.l.length : Nat) : Int))], [(0, ⟨[.agg [.sl e.items.nl (e.items.l.map S_Item.D) (zsl e.items.nl 4) none, I e.whole.lo, I e.whole.hi]], 3, false⟩)], 1, 0⟩

def sd88 (e : S_Estate) (items : GS Int) (i2 : Nat) (x2 : Int) : St := ⟨43, [(4, B false), (42, B true), (41, .tup []), (40, .tup []), (39, .tup []), (38, .tup []), (37, .tup []), (36, .tup []), (35, .tup []), (34, .tup []), (33, .tup []), (32, .tup []), (31, .tup []), (30, .tup []), (29, .tup []), (28, .tup []), (27, B true), (26, B true), (25, .tup []), (24, .tup []), (23, .tup []), (22, .tup []), (21, .tup []), (20, .tup []), (19, .tup []), (18, .tup []), (17, B true), (16, B true), (15, I x2), (14, .ptr (I x2)), (13, I ((i2 : Nat) : Int)), (12, .sl items.nl (items.l.map I) (zsl items.nl 1) none), (9, B true), (8, I ((items.l.length : Nat) : Int)), (7, .sl items.nl (items.l.map I) (zsl items.nl 1) none), (6, I ((i2 : Nat) : Int)), (1, .sl items.nl (items.l.map I) (zsl items.nl 1) none), (2, .lref 0 0 3 0), (5, I ((i2 : Nat) : Int))], [(0, ⟨[.agg [.sl e.items.nl (e.items.l.map S_Item.D) (zsl e.items.nl 4) none, I e.whole.lo, I e.whole.hi]], 3, false⟩)], 1, 0⟩

def sd89 (e : S_Estate) (items : GS Int) (i2 : Nat) (x2 : Int) : St := ⟨43, [(4, B false), (42, B true), (41, .tup []), (40, .tup []), (39, .tup []), (38, .tup []), (37, .tup []), (36, .tup []), (35, .tup []), (34, .tup []), (33, .tup []), (32, .tup []), (31, .tup []), (30, .tup []), (29, .tup []), (28, .tup []), (27, B true), (26, B true), (25, B true), (24, I ((e.items.l.length : Nat) : Int)), (23, .sl e.items.nl (e.items.l.map S_Item.D) (zsl e.items.nl 4) none), (22, .lref 0 0 3 0), (21, I x2), (20, .ptr (I x2)), (19, I ((i2 : Nat) : Int)), (18, .sl items.nl (items.l.map I) (zsl items.nl 1) none), (17, B false), (16, B false), (15, I x2), (14, .ptr (I x2)), (13, I ((i2 : Nat) : Int)), (12, .sl items.nl (items.l.map I) (zsl items.nl 1) none), (9, B true), (8, I ((items.l.length : Nat) : Int)), (7, .sl items.nl (items.l.map I) (zsl items.nl 1) none), (6, I ((i2 : Nat) : Int)), (1, .sl items.nl (items.l.map I) (zsl items.nl 1) none), (2, .lref 0 0 3 0), (5, I ((i2 : Nat) : Int))], [(0, ⟨[.agg [.sl e.items.nl (e.items.l.map S_Item.D) (zsl e.items.nl 4) none, I e.whole.lo, I e.whole.hi]], 3, false⟩)], 1, 0⟩

def sd90 (e : S_Estate) (items : GS Int) (i2 : Nat) (x2 : Int) : St := ⟨43, [(4, B false), (42, B true), (41, B true), (40, B true), (39, I x2), (38, .ptr (I x2)), (37, I ((i2 : Nat) : Int)), (36, .sl items.nl (items.l.map I) (zsl items.nl 1) none), (35, I (GS.at items (w64 (((i2 : Nat) : Int) - 1)))), (34, .ptr (I (GS.at items (w64 (((i2 : Nat) : Int) - 1))))), (33, I (w64 (((i2 : Nat) : Int) - 1))), (32, I ((i2 : Nat) : Int)), (31, .sl items.nl (items.l.map I) (zsl items.nl 1) none), (30, B true), (29, B true), (28, I ((i2 : Nat) : Int)), (27, B false), (26, B false), (25, B false), (24, I ((e.items.l.length : Nat) : Int)), (23, .sl e.items.nl (e.items.l.map S_Item.D) (zsl e.items.nl 4) none), (22, .lref 0 0 3 0), (21, I x2), (20, .ptr (I x2)), (19, I ((i2 : Nat) : Int)), (18, .sl items.nl (items.l.map I) (zsl items.nl 1) none), (17, B false), (16, B false), (15, I x2), (14, .ptr (I x2)), (13, I ((i2 : Nat) : Int)), (12, .sl items.nl (items.l.map I) (zsl items.nl 1) none), (9, B true), (8, I ((items.l.length : Nat) : Int)), (7, .sl items.nl (items.l.map I) (zsl items.nl 1) none), (6, I ((i2 : Nat) : Int)), (1, .sl items.nl (items.l.map I) (zsl items.nl 1) none), (2, .lref 0 0 3 0), (5, I ((i2 : Nat) : Int))], [(0, ⟨[.agg [.sl e.items.nl (e.items.l.map S_Item.D) (zsl e.items.nl 4) none, I e.whole.lo, I e.whole.hi]], 3, false⟩)], 1, 0⟩

theorem T_r_Right (e : S_Estate) (items : GS Int) (hL : items.l.length ≤ 9223372036854775807) : (lim cfg).pure 20 [S_Estate.D e, GS.D I 1 items] = some (B (r_Right e items)) := by
  unfold r_Right
  cases h9 : r_Right_2 e items items.l 0 with
  | x0 =>
    try dsimp only
    exact zk [.loop (.exit 0) (sd87 e items)] (And.intro (po_lr (q := lr_r_Right_2 e items) (lp_r_Right_2 e items items.l 0 (List.drop_zero) (Nat.zero_le _) (by omega)) h9) trivial) (by kernel_rfl)
  | x1 i2 x2 =>
    try dsimp only
    exact zk [.loop .ret (sd88 e items i2 x2)] (And.intro (po_lr (q := lr_r_Right_2 e items) (lp_r_Right_2 e items items.l 0 (List.drop_zero) (Nat.zero_le _) (by omega)) h9) trivial) (by kernel_rfl)
  | x2 i2 x2 =>
    try dsimp only
    exact zk [.loop .ret (sd89 e items i2 x2)] (And.intro (po_lr (q := lr_r_Right_2 e items) (lp_r_Right_2 e items items.l 0 (List.drop_zero) (Nat.zero_le _) (by omega)) h9) trivial) (by kernel_rfl)
  | x3 i2 x2 =>
    try dsimp only
    exact zk [.loop .ret (sd90 e items i2 x2)] (And.intro (po_lr (q := lr_r_Right_2 e items) (lp_r_Right_2 e items items.l 0 (List.drop_zero) (Nat.zero_le _) (by omega)) h9) trivial) (by kernel_rfl)

theorem rright5 {e : S_Estate} {items : GS Int} (hL : items.l.length ≤ 9223372036854775807) : ∀ (l : List Int) (i : Nat), items.l.drop i = l → (r_Right_2 e items l i = .x0 ↔ inc (if i = 0 then -1 else items.at ((i : Int) - 1)) (e.items.l.length : Int) l)
  | [], i, _ => by simp [r_Right_2, inc]
  | x :: l, i, hd => by
    have hlt := zt hd
    have hx : items.at (i : Int) = x := at_of hd
    have ih := rright5 (e := e) (items := items) hL l (i + 1) (zA hd)
    rw [if_neg (by omega), show ((i + 1 : Nat) : Int) - 1 = (i : Int) by omega, hx] at ih
    unfold r_Right_2
    simp only [inc]
    cases h1 : decide (x < 0) with
    | true => have := of_decide_eq_true h1; simp only [cond_true]; exact ⟨fun h => (by cases h), fun h => by omega⟩
    | false =>
      have := of_decide_eq_false h1
      cases h2 : decide (x ≥ ((e.items.l.length : Nat) : Int)) with
      | true => have := of_decide_eq_true h2; simp only [cond_true, cond_false]; exact ⟨fun h => (by cases h), fun h => by omega⟩
      | false =>
        have := of_decide_eq_false h2
        simp only [cond_false]
        by_cases h0 : i = 0
        · subst h0
          have e0 : decide (((0 : Nat) : Int) > 0) = false := rfl
          rw [e0, if_pos rfl]
          simp only [cond_false, ih]
          exact ⟨fun h => ⟨by omega, by omega, by omega, h⟩, fun h => h.2.2.2⟩
        · rw [if_neg h0, decide_eq_true (by omega : ((i : Nat) : Int) > 0)]
          simp only [cond_true]
          rw [yi (by omega) (by omega)]
          cases h2 : decide (items.at (((i : Nat) : Int) - 1) ≥ x) with
          | true => have := of_decide_eq_true h2; simp only [cond_true]; exact ⟨fun h => (by cases h), fun h => by omega⟩
          | false =>
            have := of_decide_eq_false h2
            simp only [cond_false, ih]
            exact ⟨fun h => ⟨by omega, by omega, by omega, h⟩, fun h => h.2.2.2⟩
theorem rright_iff {e : S_Estate} {items : GS Int} (hL : items.l.length ≤ 9223372036854775807) : r_Right e items = true ↔ inc (-1) (e.items.l.length : Int) items.l := by
  have k := rright5 (e := e) hL items.l 0 List.drop_zero
  rw [if_pos rfl] at k
  rw [← k]
  unfold r_Right
  cases r_Right_2 e items items.l 0 <;> simp
end Go.VS

namespace Go.VS
open Go Go.Proofs
set_option maxHeartbeats 0
set_option linter.unusedSimpArgs false
set_option linter.unusedVariables false
end Go.VS

namespace Go.VS
open Go Go.Proofs
set_option maxHeartbeats 0
set_option linter.unusedSimpArgs false
set_option linter.unusedVariables false
theorem rright_all {e : S_Estate} {items : GS Int} (hL : items.l.length ≤ 9223372036854775807) (hn : 1 ≤ e.items.l.length ∧ e.items.l.length ≤ 12) (h : r_Right e items = true) : (∀ i ∈ items.l, 0 ≤ i ∧ i < ((e.items.l.length : Nat) : Int)) ∧ items.l.length ≤ 12 := by
  have h' := (rright_iff hL).1 h
  refine ⟨inc_mem h', ?_⟩
  by_cases hn' : items.l = []
  · rw [hn']; simp
  · have := inc_len h' (by omega) hn'
    omega
end Go.VS

namespace Go.VS
open Go Go.Proofs
set_option maxHeartbeats 0
set_option linter.unusedSimpArgs false
set_option linter.unusedVariables false
theorem shown_len {e : S_Estate} {items : GS Int} {s : Int} : (orders_shown e items s).l.length = items.l.length := by
  have key : ∀ (l : List Int) (n : Int) (v : List Int), ∃ m w, orders_shown_3a e s l n v = .x0 m w ∧ w.length = v.length + l.length := by
    intro l
    induction l with
    | nil => intro n v; exact ⟨n, v, rfl, by simp⟩
    | cons x l ih =>
      intro n v
      unfold orders_shown_3a
      obtain ⟨m, w, h1, h2⟩ := ih (w64 (n - (imin n (zg (GS.at e.items x))))) (v ++ [w64 ((w64 (((GS.at e.items x).now.lo) + ((GS.at e.items x).error))) + (imin n (zg (GS.at e.items x))))])
      exact ⟨m, w, h1, by rw [h2]; simp; omega⟩
  unfold orders_shown
  cases items.l with
  | nil => rfl
  | cons x l =>
    unfold orders_shown_3
    dsimp only
    obtain ⟨m, w, h1, h2⟩ := key l (w64 (s - (imin s (zg (GS.at e.items x))))) [w64 ((w64 (((GS.at e.items x).now.lo) + ((GS.at e.items x).error))) + (imin s (zg (GS.at e.items x))))]
    rw [h1]
    simp [GS.some, h2]
    omega
theorem open_len {e : S_Estate} {items : GS Int} {low high : Int} : (orders_Open e items low high).1.l.length ≤ items.l.length := by
  have h1 : (orders_open e items low high).1.l.length ≤ items.l.length := by
    unfold orders_open
    simp only [Bool.cond_decide]
    split
    · simp [GS.nil]
    · split
      · simp [GS.nil]
      · split
        · simp [GS.nil]
        · simp [shown_len]
  unfold orders_Open
  cases (orders_bounds e items low high != 0) with
  | true => simp [GS.nil]
  | false => cases (orders_open e items low high).2 <;> exact h1
end Go.VS

namespace Go.VS
open Go Go.Proofs
set_option maxHeartbeats 0
set_option linter.unusedSimpArgs false
set_option linter.unusedVariables false
inductive LR_l_shows_3 where
  | x0 (va3_0 : List Int)
  | x1
instance : Inhabited LR_l_shows_3 := ⟨.x0 default⟩
def l_shows_3a (e : S_Estate) (areas : GS Int) (off : GS Int) : List Int → Nat → (List Int) → LR_l_shows_3
  | [], i3, va3_0 => .x0 va3_0
  | x3 :: rest3, i3, va3_0 =>
    bif decide (((i3 : Nat) : Int) < ((off.l.length : Nat) : Int)) then
      l_shows_3a e areas off rest3 (i3 + 1) (va3_0 ++ [w64 ((GS.at areas x3) + (imin (ye (GS.at off ((i3 : Nat) : Int)) (w64 (0 - ((GS.at e.items x3).error)))) ((GS.at e.items x3).error)))])
    else
      l_shows_3a e areas off rest3 (i3 + 1) (va3_0 ++ [w64 ((GS.at areas x3) + 0)])
def l_shows_3 (e : S_Estate) (areas : GS Int) (off : GS Int) : List Int → Nat → LR_l_shows_3
  | [], i3 => .x1
  | x3 :: rest3, i3 =>
    bif decide (((i3 : Nat) : Int) < ((off.l.length : Nat) : Int)) then
      l_shows_3a e areas off rest3 (i3 + 1) [w64 ((GS.at areas x3) + (imin (ye (GS.at off ((i3 : Nat) : Int)) (w64 (0 - ((GS.at e.items x3).error)))) ((GS.at e.items x3).error)))]
    else
      l_shows_3a e areas off rest3 (i3 + 1) [w64 ((GS.at areas x3) + 0)]
def l_shows (e : S_Estate) (items : GS Int) (areas : GS Int) (off : GS Int) : (GS Int) :=
  match l_shows_3 e areas off items.l 0 with
  | .x0 va3_0 =>
    GS.some va3_0
  | .x1 =>
    GS.nil

theorem zn {e : S_Estate} {items areas off : GS Int} : (l_shows e items areas off).l.length = items.l.length := by
  have key : ∀ (l : List Int) (i : Nat) (v : List Int), ∃ w, l_shows_3a e areas off l i v = .x0 w ∧ w.length = v.length + l.length := by
    intro l
    induction l with
    | nil => intro i v; exact ⟨v, rfl, by simp⟩
    | cons x l ih =>
      intro i v
      unfold l_shows_3a
      cases decide (((i : Nat) : Int) < ((off.l.length : Nat) : Int)) with
      | true => obtain ⟨w, h1, h2⟩ := ih (i + 1) (v ++ [w64 ((areas.at x) + (imin (ye (off.at ((i : Nat) : Int)) (w64 (0 - ((e.items.at x).error)))) ((e.items.at x).error)))]); exact ⟨w, h1, by rw [h2]; simp; omega⟩
      | false => obtain ⟨w, h1, h2⟩ := ih (i + 1) (v ++ [w64 ((areas.at x) + 0)]); exact ⟨w, h1, by rw [h2]; simp; omega⟩
  unfold l_shows
  cases items.l with
  | nil => rfl
  | cons x l =>
    unfold l_shows_3
    dsimp only
    cases decide (((0 : Nat) : Int) < ((off.l.length : Nat) : Int)) with
    | true => obtain ⟨w, h1, h2⟩ := key l (0 + 1) [w64 ((areas.at x) + (imin (ye (off.at ((0 : Nat) : Int)) (w64 (0 - ((e.items.at x).error)))) ((e.items.at x).error)))]; simp only [cond_true, h1, GS.some, h2]; simp; omega
    | false => obtain ⟨w, h1, h2⟩ := key l (0 + 1) [w64 ((areas.at x) + 0)]; simp only [cond_false, h1, GS.some, h2]; simp; omega
end Go.VS

/-
  VS, part V6: rows of slices: what is appended becomes deep at a loop's head. (A text of this claim's own; nothing of it is trusted.)
-/
namespace Go.VS
open Go
structure EncD {α : Type} (f : α → VS.D) : Prop where
  d : ∀ g x, deepEl g (f x) = f x
  i : ∀ g x, deepElI g (f x) = []
section
variable {α : Type} {f : α → VS.D} (h : EncD f)
include h
theorem EncD.mapD (g : Nat → Option Ob) (l : List α) : List.map (deepEl g) (l.map f) = l.map f := by
  rw [List.map_map]; exact List.map_congr_left fun x _ => h.d g x
theorem EncD.catI (g : Nat → Option Ob) (l : List α) : Go.VS.catI (deepElI g) (l.map f) = [] := by
  induction l with
  | nil => rfl
  | cons x l ih => simp only [List.map_cons, Go.VS.catI, ih, h.i]; rfl
theorem EncD.catI_app (g : Nat → Option Ob) (l : List α) (b : List VS.D) : Go.VS.catI (deepElI g) (l.map f ++ b) = Go.VS.catI (deepElI g) b := by
  induction l with
  | nil => rfl
  | cons x l ih => simp only [List.map_cons, List.cons_append, Go.VS.catI, ih, h.i]; rfl
end
theorem encD_GS {α : Type} {f : α → VS.D} {k : Nat} : EncD (GS.D f k) := ⟨fun _ _ => rfl, fun _ _ => rfl⟩
/-- What leads to memory of the call's own, behind a row. -/
theorem app_rowX {α : Type} {f : α → VS.D} {te : Ty} {gO : Nat → Option Ob} {nxt o o2 sz : Nat} {fz : Bool} (EO : EncOK sz f) (l : List α) (x : α) (d : VS.D) (hd : d.okCells = true ∧ d.cells.length = sz) (h1 : gO o = Option.some ⟨l.map f, sz, false⟩) (h2 : gO o2 = Option.some ⟨[d], sz, fz⟩) (h3 : te.size = sz) (h4 : zeroOk te = true) (h5 : 0 < te.size)
    (hb : (l.length + 1) * te.bytes ≤ big ∧ l.length + 1 ≤ big) :
    appendE te gO nxt (.lsl o 0 l.length sz none) (.lsl o2 0 1 sz (Option.some 1)) = Option.some ⟨.lsl nxt 0 (l ++ [x]).length sz none, [(o, none), (nxt, Option.some ⟨l.map f ++ [d], sz, false⟩)], [o, o2], nxt + 1⟩ := by
  have e1 : elemsD gO (.lsl o2 0 1 sz (Option.some 1)) = Option.some ([d], sz, [o2]) := by
    simp [elemsD, h2]
  unfold appendE
  rw [e1]
  simp only [List.isEmpty, Bool.false_eq_true, if_false, h3, decide_true, Bool.true_and, h4, h1]
  have e2 : allOk sz [d] = true := by simp only [allOk, hd.1, hd.2, decide_true, Bool.and_self]
  have e3 : allOk sz (List.map f l) = true := EO.allOk l
  have h5' : 0 < sz := h3 ▸ h5
  have e4 : List.take l.length (List.map f l) = List.map f l := by rw [List.take_of_length_le]; simp
  simp only [e2, h5', decide_true, Bool.and_self, if_true, List.length_map, Nat.zero_add, Nat.le_refl, appLsl, hb.1, hb.2, Bool.not_false, List.length_cons, List.length_nil, e4]
  rw [if_neg (by omega)]
  simp [h3, e3]
/-- The one element of a row, by an index that is known to be 0. -/
theorem idx_one {C : Cfg} {nxt : Nat} {t : TypeId} {ty te : Ty} {e : TypeId} {o sz : Nat} {cap : Option Nat} {i : Int} (h1 : C.ty t = Option.some ty) (h2 : ty.kind = .slice e) (h3 : C.ty e = Option.some te) (h4 : te.size = sz) (h5 : i = 0) :
    evIndexAddr C nxt t (.lsl o 0 1 sz cap) (I i) = Option.some ⟨.lref o 0 sz 0, [], [], nxt⟩ := by
  subst h5
  exact idx_row h1 h2 h3 h4 (Int.le_refl 0) (by decide)
theorem rem_op {C : Cfg} {t : TypeId} {cst : Bool} {nxt : Nat} {a b : Int} (h : b ≠ 0) : justO nxt (binD C t cst .rem (I a) (I b)) = Option.some ⟨I (a.tmod b), [], [], nxt⟩ := by
  simp [binD, binVal, binInt, intOp, justO, h]
theorem dd_I {g : Nat → Option Ob} {n : Int} : deepD g (I n) = I n := rfl
theorem dd_B {g : Nat → Option Ob} {b : Bool} : deepD g (B b) = B b := rfl
theorem di_I {g : Nat → Option Ob} {n : Int} : deepI g (I n) = [] := rfl
theorem di_B {g : Nat → Option Ob} {b : Bool} : deepI g (B b) = [] := rfl
attribute [go_sem] deepSl deepSlI dd_I dd_B di_I di_B dd_val dd_sl dd_ptr dd_lsl di_val di_sl di_ptr di_lsl
end Go.VS

