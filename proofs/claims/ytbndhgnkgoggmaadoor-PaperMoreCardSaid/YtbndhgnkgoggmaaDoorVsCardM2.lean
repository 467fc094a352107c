/- Nothing of a statement is proved in this text alone: it is part 2 of the proof's own tools, an evaluator of the code over deep values, its soundness, and what it makes of this seat's functions. Conditions: none beyond the statement's own. -/
import Derived.Test.YtbndhgnkgoggmaaDoorVsCardM1
set_option linter.unusedSimpArgs false
set_option linter.unusedVariables false
/-
  VS, part W: to walk through code, one operation after the other. (A text of this claim's own; nothing of it is trusted.)
-/
namespace Go.VS
open Go

/-- What is to be done behind the code at hand. -/
inductive Kt where
  | code (c : Code) | block (id : Nat) | scope | loop (a : Code)

section
variable {β : Type} (C : Cfg) (S : Sm) (f : FuncId) (F : Exit → St → Option β)
def zO : List Kt → Exit → St → Option β
  | [], e, st => F e st
  | .code c :: k, e, st => match e with
    | .normal => match zR C S f c st with
      | some (e, st') => zO k e st'
      | none => none
    | e => zO k e st
  | .block id :: k, e, st => match e with
    | .exit id' => if id' = id then zO k .normal st else zO k (.exit id') st
    | e => zO k e st
  | .scope :: k, e, st => match e with
    | .goto _ => none
    | e => zO k e st
  | .loop a :: k, e, st => match e with
    | .normal => match gc (C.keep f (zD a)) st with
      | some st1 => match S.loop f a st1 with
        | some (e, st2) => zO k e st2
        | none => none
      | none => none
    | e => zO k e st
/-- A loop from its head on. -/
def EvL (a : Code) (k : List Kt) (st : St) : Option β := match S.loop f a st with
  | some (e, st') => zO C S f F k e st'
  | none => none
def EvC (c : Code) (k : List Kt) (st : St) : Option β := match zR C S f c st with
  | some (e, st') => zO C S f F k e st'
  | none => none
/-- A region whose order is the text's. -/
def EvU (ops : Array Oper) (l : List Oper) (k : List Kt) (st : St) : Option β := match evOps C S ops l st with
  | some st' => zO C S f F k .normal st'
  | none => none
/-- A region whose order is drawn. -/
def EvD (ops : Array Oper) (l : List Oper) (tr : Trace) (k : List Kt) (st : St) : Option β := match evOpsT C S ops l st with
  | some (st', tr') => if regOK ops && traceOK ops (tr.reverse ++ tr') then zO C S f F k .normal st' else none
  | none => none
end

section
variable {β : Type} {C : Cfg} {S : Sm} {f : FuncId} {F : Exit → St → Option β} {k : List Kt} {st : St} {r : Option β} {a b c : Code}
theorem w_skip : EvC C S f F .skip k st = zO C S f F k .normal st := rfl
theorem w_label {l : Nat} : EvC C S f F (.label l) k st = zO C S f F k .normal st := rfl
theorem w_ret : EvC C S f F .ret k st = zO C S f F k .ret st := rfl
theorem w_exit {id : Nat} : EvC C S f F (.exit id) k st = zO C S f F k (.exit id) st := rfl
theorem w_seq : EvC C S f F (.seq a b) k st = EvC C S f F a (.code b :: k) st := by
  simp only [EvC, zR]
  cases h : zR C S f a st with
  | none => rfl
  | some p =>
    obtain ⟨e, st'⟩ := p
    cases e <;> rfl
theorem w_block {id : Nat} : EvC C S f F (.block id a) k st = EvC C S f F a (.block id :: k) st := by
  simp only [EvC, zR]
  cases h : zR C S f a st with
  | none => rfl
  | some p =>
    obtain ⟨e, st'⟩ := p
    cases e <;> try rfl
    rename_i id'
    simp only [zO]
    by_cases h' : id' = id
    · rw [if_pos h', if_pos h']
    · rw [if_neg h', if_neg h']
theorem w_scope : EvC C S f F (.scope a) k st = EvC C S f F a (.scope :: k) st := by
  simp only [EvC, zR]
  cases h : zR C S f a st with
  | none => rfl
  | some p =>
    obtain ⟨e, st'⟩ := p
    cases e <;> rfl
theorem w_region {id : Nat} {ops : Array Oper} : EvC C S f F (.region id ops false) k st = EvU C S f F ops ops.toList k st := by
  simp only [EvC, zR, EvU, Bool.false_eq_true, if_false]
  cases evOps C S ops ops.toList st <;> rfl
theorem w_drawn {id : Nat} {ops : Array Oper} : EvC C S f F (.region id ops true) k st = EvD C S f F ops ops.toList [] k st := by
  simp only [EvC, zR, EvD, if_true]
  cases evOpsT C S ops ops.toList st with
  | none => rfl
  | some p =>
    obtain ⟨st', tr⟩ := p
    show (match (if regOK ops && traceOK ops tr then some (Exit.normal, st') else none) with | some (e, st') => zO C S f F k e st' | none => none) = if regOK ops && traceOK ops tr then zO C S f F k .normal st' else none
    cases regOK ops && traceOK ops tr <;> rfl
theorem w_cond {x : Operand} {t : Bool} (h : zF C (get st.tmps) x = .val (.bool t)) : EvC C S f F (.cond x a b) k st = if t then EvC C S f F a k st else EvC C S f F b k st := by
  simp only [EvC, zR, h]
  cases t <;> rfl
theorem z8 {x : Operand} (h : zF C (get st.tmps) x = .val (.bool true)) (k' : EvC C S f F a k st = r) : EvC C S f F (.cond x a b) k st = r := by rw [w_cond h]; exact k'
theorem z5 {x : Operand} (h : zF C (get st.tmps) x = .val (.bool false)) (k' : EvC C S f F b k st = r) : EvC C S f F (.cond x a b) k st = r := by rw [w_cond h]; exact k'
theorem w_loop {st1 : St} {ks : List Nat} (hk : C.keep f (zD a) = ks) (h : gc ks st = some st1) (k' : EvL C S f F a k st1 = r) : EvC C S f F (.loop a) k st = r := by
  simp only [EvC, zR, hk, h]; exact k'
theorem zM {st1 : St} {ks : List Nat} (hk : C.keep f (zD a) = ks) (h : gc ks st = some st1) (k' : EvL C S f F a k st1 = r) : zO C S f F (.loop a :: k) .normal st = r := by
  simp only [zO, hk, h]; exact k'
theorem w_loop_ret : zO C S f F (.loop a :: k) .ret st = zO C S f F k .ret st := rfl
theorem w_loop_exit {id : Nat} : zO C S f F (.loop a :: k) (.exit id) st = zO C S f F k (.exit id) st := rfl
theorem zv {f : FuncId} {F : Exit → St → Option β} {x : β} (h : EvC C (lim C) f F a (.loop a :: k) st = some x) : EvL C (lim C) f F a k st = some x := by
  simp only [EvC] at h
  have key : ∀ q : Exit × St, runLoop C (lim C) f a st = some q → zO C (lim C) f F k q.1 q.2 = some x → EvL C (lim C) f F a k st = some x := by
    intro q hq hk
    simp only [EvL, loop_of hq]; exact hk
  cases hev : zR C (lim C) f a st with
  | none => rw [hev] at h; cases h
  | some p =>
    obtain ⟨e, st1⟩ := p
    rw [hev] at h
    cases e with
    | normal =>
      simp only [zO] at h
      split at h
      · rename_i st2 hg
        split at h
        · rename_i e2 st3 hl
          exact key (e2, st3) (by simp only [runLoop, hev, hg, hl]) h
        · cases h
      · cases h
    | _ => exact key (_, st1) (by simp only [runLoop, hev]) h
theorem w_code {c : Code} : zO C S f F (.code c :: k) .normal st = EvC C S f F c k st := rfl
theorem w_code_ret {c : Code} : zO C S f F (.code c :: k) .ret st = zO C S f F k .ret st := rfl
theorem w_code_exit {c : Code} {id : Nat} : zO C S f F (.code c :: k) (.exit id) st = zO C S f F k (.exit id) st := rfl
theorem w_inblock {id : Nat} : zO C S f F (.block id :: k) .normal st = zO C S f F k .normal st := rfl
theorem w_block_ret {id : Nat} : zO C S f F (.block id :: k) .ret st = zO C S f F k .ret st := rfl
theorem w_block_exit {id id' : Nat} : zO C S f F (.block id :: k) (.exit id') st = if id' = id then zO C S f F k .normal st else zO C S f F k (.exit id') st := rfl
theorem w_inscope : zO C S f F (.scope :: k) .normal st = zO C S f F k .normal st := rfl
theorem w_scope_ret : zO C S f F (.scope :: k) .ret st = zO C S f F k .ret st := rfl
theorem w_scope_exit {id : Nat} : zO C S f F (.scope :: k) (.exit id) st = zO C S f F k (.exit id) st := rfl
theorem w_end {e : Exit} : zO C S f F [] e st = F e st := rfl

/-! ### operations -/
variable {ops : Array Oper} {l : List Oper} {o : Oper} {n nxt pin : Nat} {tms tm : List (Nat × D)} {objs ob : List (Nat × Ob)} {d : D} {wr : List Upd} {rd : List Nat} {nx : Nat} {tr : Trace}
theorem u_nil : EvU C S f F ops [] k st = zO C S f F k .normal st := rfl
theorem u_run (hw : wantD ops (get tms) o.guard = some true) (ho : evOp C S (get tms) objs nxt o = some ⟨d, wr, rd, nx⟩) (ht : putT n tms o.dst d = tm) (hb : applyUpd wr objs = ob)
    (h : EvU C S f F ops l k ⟨n, tm, ob, nx, pin⟩ = r) : EvU C S f F ops (o :: l) k ⟨n, tms, objs, nxt, pin⟩ = r := by
  subst ht hb
  simp only [EvU, evOps, hw, ho] at h ⊢
  exact h
theorem z9 (hw : wantD ops (get tms) o.guard = some false) (ht : putT n tms o.dst (.tup []) = tm) (h : EvU C S f F ops l k ⟨n, tm, objs, nxt, pin⟩ = r) : EvU C S f F ops (o :: l) k ⟨n, tms, objs, nxt, pin⟩ = r := by
  subst ht
  simp only [EvU, evOps, hw] at h ⊢
  exact h
/-- An operation that yields a Bool: the two cases. -/
theorem u_bool {t : Bool} (hw : wantD ops (get tms) o.guard = some true) (ho : evOp C S (get tms) objs nxt o = some ⟨.val (.bool t), wr, rd, nx⟩) (hb : applyUpd wr objs = ob)
    (h1 : t = true → EvU C S f F ops l k ⟨n, putT n tms o.dst (B true), ob, nx, pin⟩ = r) (h0 : t = false → EvU C S f F ops l k ⟨n, putT n tms o.dst (B false), ob, nx, pin⟩ = r) : EvU C S f F ops (o :: l) k ⟨n, tms, objs, nxt, pin⟩ = r := by
  cases t with
  | true => exact u_run hw ho rfl hb (h1 rfl)
  | false => exact u_run hw ho rfl hb (h0 rfl)
theorem ze (hr : regOK ops = true) (ht : traceOK ops tr.reverse = true) (h : zO C S f F k .normal st = r) : EvD C S f F ops [] tr k st = r := by
  simp only [EvD, evOpsT, List.append_nil, hr, ht, Bool.and_self, if_true]; exact h
theorem d_run {ws : List Nat} (hw : wantD ops (get tms) o.guard = some true) (ho : evOp C S (get tms) objs nxt o = some ⟨d, wr, rd, nx⟩) (ht : putT n tms o.dst d = tm) (hb : applyUpd wr objs = ob) (hws : wr.map (·.1) = ws)
    (h : EvD C S f F ops l ((rd, ws) :: tr) k ⟨n, tm, ob, nx, pin⟩ = r) : EvD C S f F ops (o :: l) tr k ⟨n, tms, objs, nxt, pin⟩ = r := by
  subst ht hb hws
  simp only [EvD, evOpsT, hw, ho] at h ⊢
  rw [← h]
  cases evOpsT C S ops l ⟨n, putT n tms o.dst d, applyUpd wr objs, nx, pin⟩ with
  | none => rfl
  | some p => obtain ⟨st', tr'⟩ := p; simp
theorem za (hw : wantD ops (get tms) o.guard = some false) (ht : putT n tms o.dst (.tup []) = tm) (h : EvD C S f F ops l (([], []) :: tr) k ⟨n, tm, objs, nxt, pin⟩ = r) : EvD C S f F ops (o :: l) tr k ⟨n, tms, objs, nxt, pin⟩ = r := by
  subst ht
  simp only [EvD, evOpsT, hw] at h ⊢
  rw [← h]
  cases evOpsT C S ops l ⟨n, putT n tms o.dst (.tup []), objs, nxt, pin⟩ with
  | none => rfl
  | some p => obtain ⟨st', tr'⟩ := p; simp
theorem d_bool {t : Bool} {ws : List Nat} (hw : wantD ops (get tms) o.guard = some true) (ho : evOp C S (get tms) objs nxt o = some ⟨.val (.bool t), wr, rd, nx⟩) (hb : applyUpd wr objs = ob) (hws : wr.map (·.1) = ws)
    (h1 : t = true → EvD C S f F ops l ((rd, ws) :: tr) k ⟨n, putT n tms o.dst (B true), ob, nx, pin⟩ = r) (h0 : t = false → EvD C S f F ops l ((rd, ws) :: tr) k ⟨n, putT n tms o.dst (B false), ob, nx, pin⟩ = r) : EvD C S f F ops (o :: l) tr k ⟨n, tms, objs, nxt, pin⟩ = r := by
  cases t with
  | true => exact d_run hw ho rfl hb hws (h1 rfl)
  | false => exact d_run hw ho rfl hb hws (h0 rfl)

/-- What is made of a value: it is written, and on. -/
def Put (n : Nat) (tms : List (Nat × D)) (dst : Option Tmp) (d : D) (G : List (Nat × D) → Prop) : Prop := G (putT n tms dst d)
variable {dst : Option Tmp} {G : List (Nat × D) → Prop} {tm1 tm0 : List (Nat × D)}
theorem zf (ht : putT n tms dst d = tm) (h : G tm) : Put n tms dst d G := by subst ht; exact h
theorem zb {t : Bool} (ht1 : putT n tms dst (B true) = tm1) (ht0 : putT n tms dst (B false) = tm0) (h1 : t = true → G tm1) (h0 : t = false → G tm0) : Put n tms dst (.val (.bool t)) G := by
  subst ht1 ht0
  cases t with
  | true => exact h1 rfl
  | false => exact h0 rfl
theorem u_step (hw : wantD ops (get tms) o.guard = some true) (ho : evOp C S (get tms) objs nxt o = some ⟨d, wr, rd, nx⟩) (hb : applyUpd wr objs = ob)
    (h : Put n tms o.dst d fun tm => EvU C S f F ops l k ⟨n, tm, ob, nx, pin⟩ = r) : EvU C S f F ops (o :: l) k ⟨n, tms, objs, nxt, pin⟩ = r := u_run hw ho rfl hb h
theorem zc {ws : List Nat} (hw : wantD ops (get tms) o.guard = some true) (ho : evOp C S (get tms) objs nxt o = some ⟨d, wr, rd, nx⟩) (hb : applyUpd wr objs = ob) (hws : wr.map (·.1) = ws)
    (h : Put n tms o.dst d fun tm => EvD C S f F ops l ((rd, ws) :: tr) k ⟨n, tm, ob, nx, pin⟩ = r) : EvD C S f F ops (o :: l) tr k ⟨n, tms, objs, nxt, pin⟩ = r := d_run hw ho rfl hb hws h

theorem z6 {ws : List Nat} (hw : wantD ops (get tms) o.guard = some true) (ho : evOp C S (get tms) objs nxt o = some ⟨d, wr, rd, nx⟩) (hb : applyUpd wr objs = ob) (_ : wr.map (·.1) = ws)
    (h : Put n tms o.dst d fun tm => EvU C S f F ops l k ⟨n, tm, ob, nx, pin⟩ = r) : EvU C S f F ops (o :: l) k ⟨n, tms, objs, nxt, pin⟩ = r := u_run hw ho rfl hb h

theorem ids_val {f : Nat} {v : Value} : idsD (f + 1) (.val v) = some [] := rfl
theorem ids_sl {f : Nat} {nl : Bool} {els : List D} {sz : Nat} {cap : Option Nat} : idsD (f + 1) (.sl nl els sz cap) = some [] := rfl
theorem ids_ptr {f : Nat} {d : D} : idsD (f + 1) (.ptr d) = some [] := rfl
theorem ids_lref {f o i sz sub : Nat} : idsD (f + 1) (.lref o i sz sub) = some [o] := rfl
theorem ids_lsl {f o off len sz : Nat} {cap : Option Nat} : idsD (f + 1) (.lsl o off len sz cap) = some [o] := rfl
theorem ids_agg {f : Nat} {cs : List D} : idsD (f + 1) (.agg cs) = idsL (idsD f) cs := rfl
theorem ids_tup {f : Nat} {cs : List D} : idsD (f + 1) (.tup cs) = idsL (idsD f) cs := rfl
theorem ids_unk {f : Nat} : idsD (f + 1) .unk = some [] := rfl
theorem ren_val {ρ : Nat → Option Nat} {f : Nat} {v : Value} : renD ρ (f + 1) (.val v) = .val v := rfl
theorem ren_sl {ρ : Nat → Option Nat} {f : Nat} {nl : Bool} {els : List D} {sz : Nat} {cap : Option Nat} : renD ρ (f + 1) (.sl nl els sz cap) = .sl nl els sz cap := rfl
theorem ren_ptr {ρ : Nat → Option Nat} {f : Nat} {d : D} : renD ρ (f + 1) (.ptr d) = .ptr d := rfl
theorem ren_lref {ρ : Nat → Option Nat} {f o i sz sub : Nat} : renD ρ (f + 1) (.lref o i sz sub) = match ρ o with | some o' => .lref o' i sz sub | none => .unk := rfl
theorem ren_lsl {ρ : Nat → Option Nat} {f o off len sz : Nat} {cap : Option Nat} : renD ρ (f + 1) (.lsl o off len sz cap) = match ρ o with | some o' => .lsl o' off len sz cap | none => .unk := rfl
theorem ren_agg {ρ : Nat → Option Nat} {f : Nat} {cs : List D} : renD ρ (f + 1) (.agg cs) = .agg (cs.map (renD ρ f)) := rfl
theorem ren_tup {ρ : Nat → Option Nat} {f : Nat} {cs : List D} : renD ρ (f + 1) (.tup cs) = .tup (cs.map (renD ρ f)) := rfl
theorem ren_unk {ρ : Nat → Option Nat} {f : Nat} : renD ρ (f + 1) .unk = .unk := rfl
theorem on_int {k : IntKind} {n : Int} : D.one (.val (.int k n)) = true := rfl
theorem oc_int {k : IntKind} {n : Int} : D.okCells (.val (.int k n)) = true := rfl
theorem ce_int {k : IntKind} {n : Int} : D.cells (.val (.int k n)) = [.val (.int k n)] := rfl
theorem on_bool {b : Bool} : D.one (.val (.bool b)) = true := rfl
theorem oc_bool {b : Bool} : D.okCells (.val (.bool b)) = true := rfl
theorem ce_bool {b : Bool} : D.cells (.val (.bool b)) = [.val (.bool b)] := rfl
theorem on_str {b : ByteArray} : D.one (.val (.string b)) = true := rfl
theorem oc_str {b : ByteArray} : D.okCells (.val (.string b)) = true := rfl
theorem ce_str {b : ByteArray} : D.cells (.val (.string b)) = [.val (.string b)] := rfl
theorem on_vptr {p : Option Addr} : D.one (.val (.pointer p)) = true := rfl
theorem oc_vptr {p : Option Addr} : D.okCells (.val (.pointer p)) = true := rfl
theorem ce_vptr {p : Option Addr} : D.cells (.val (.pointer p)) = [.val (.pointer p)] := rfl
theorem on_vnf  : D.one (.val .nilFunc) = true := rfl
theorem oc_vnf  : D.okCells (.val .nilFunc) = true := rfl
theorem ce_vnf  : D.cells (.val .nilFunc) = [.val .nilFunc] := rfl
theorem on_vni  : D.one (.val .nilIface) = true := rfl
theorem oc_vni  : D.okCells (.val .nilIface) = true := rfl
theorem ce_vni  : D.cells (.val .nilIface) = [.val .nilIface] := rfl
theorem on_sl {nl : Bool} {els : List D} {sz : Nat} {cap : Option Nat} : D.one (.sl nl els sz cap) = true := rfl
theorem oc_sl {nl : Bool} {els : List D} {sz : Nat} {cap : Option Nat} : D.okCells (.sl nl els sz cap) = true := rfl
theorem ce_sl {nl : Bool} {els : List D} {sz : Nat} {cap : Option Nat} : D.cells (.sl nl els sz cap) = [.sl nl els sz cap] := rfl
theorem on_ptr {d : D} : D.one (.ptr d) = true := rfl
theorem oc_ptr {d : D} : D.okCells (.ptr d) = true := rfl
theorem ce_ptr {d : D} : D.cells (.ptr d) = [.ptr d] := rfl
theorem on_lref {o i sz sub : Nat} : D.one (.lref o i sz sub) = true := rfl
theorem oc_lref {o i sz sub : Nat} : D.okCells (.lref o i sz sub) = true := rfl
theorem ce_lref {o i sz sub : Nat} : D.cells (.lref o i sz sub) = [.lref o i sz sub] := rfl
theorem on_lsl {o off len sz : Nat} {cap : Option Nat} : D.one (.lsl o off len sz cap) = true := rfl
theorem oc_lsl {o off len sz : Nat} {cap : Option Nat} : D.okCells (.lsl o off len sz cap) = true := rfl
theorem ce_lsl {o off len sz : Nat} {cap : Option Nat} : D.cells (.lsl o off len sz cap) = [.lsl o off len sz cap] := rfl
theorem on_fn {f : Fn} {a b : List D} : D.one (.fn f a b) = true := rfl
theorem oc_fn {f : Fn} {a b : List D} : D.okCells (.fn f a b) = true := rfl
theorem ce_fn {f : Fn} {a b : List D} : D.cells (.fn f a b) = [.fn f a b] := rfl
theorem on_iface {t : TypeId} {d : D} : D.one (.iface t d) = true := rfl
theorem oc_iface {t : TypeId} {d : D} : D.okCells (.iface t d) = true := rfl
theorem ce_iface {t : TypeId} {d : D} : D.cells (.iface t d) = [.iface t d] := rfl
theorem on_agg {cs : List D} : D.one (.agg cs) = false := rfl
theorem oc_agg {cs : List D} : D.okCells (.agg cs) = allOne cs := rfl
theorem ce_agg {cs : List D} : D.cells (.agg cs) = cs := rfl
section
variable {gO : Nat → Option Ob}
theorem dd_val {v : Value} : deepD gO (.val v) = .val v := rfl
theorem dd_sl {nl : Bool} {els : List D} {sz : Nat} {cap : Option Nat} : deepD gO (.sl nl els sz cap) = .sl nl els sz cap := rfl
theorem dd_ptr {d : D} : deepD gO (.ptr d) = .ptr d := rfl
theorem dd_lsl {o off len sz : Nat} {cap : Option Nat} : deepD gO (.lsl o off len sz cap) = .lsl o off len sz cap := rfl
theorem dd_lref {o i sz sub : Nat} : deepD gO (.lref o i sz sub) = match snap gO 16 (.lref o i sz sub) with | some (e, _) => e | none => .lref o i sz sub := rfl
theorem di_val {v : Value} : deepI gO (.val v) = [] := rfl
theorem di_sl {nl : Bool} {els : List D} {sz : Nat} {cap : Option Nat} : deepI gO (.sl nl els sz cap) = [] := rfl
theorem di_ptr {d : D} : deepI gO (.ptr d) = [] := rfl
theorem di_lsl {o off len sz : Nat} {cap : Option Nat} : deepI gO (.lsl o off len sz cap) = [] := rfl
theorem di_lref {o i sz sub : Nat} : deepI gO (.lref o i sz sub) = match snap gO 16 (.lref o i sz sub) with | some (_, r) => r | none => [] := rfl
end
def frz (b : Bool) (g : Nat → Option Ob) (ids : List Nat) : List Upd := if b then [] else freeze g ids
theorem frz_nil {b : Bool} {g : Nat → Option Ob} : frz b g [] = [] := by cases b <;> rfl
theorem frz_true {g : Nat → Option Ob} {ids : List Nat} : frz true g ids = [] := rfl
theorem frz_false {g : Nat → Option Ob} {ids : List Nat} : frz false g ids = freeze g ids := rfl
theorem callPure_eq {S : Sm} {objs : List (Nat × Ob)} {nxt : Nat} {K : FuncId} {args : List D} : zg S objs nxt K args = match snapAll (snap (zH objs) fuelD) args with
  | some (args', ids) => match S.pure K args' with
    | some r => some ⟨r, frz (flat fuelD r) (zH objs) ids, ids, nxt⟩
    | none => none
  | none => none := rfl
theorem fl_val {f : Nat} {v : Value} : flat (f + 1) (.val v) = true := rfl
theorem fl_nil {f : Nat} {els : List D} {sz : Nat} {cap : Option Nat} : flat (f + 1) (.sl true els sz cap) = true := rfl
theorem fl_sl {f : Nat} {els : List D} {sz : Nat} {cap : Option Nat} : flat (f + 1) (.sl false els sz cap) = false := rfl
theorem fl_agg {f : Nat} {cs : List D} : flat (f + 1) (.agg cs) = flatL (flat f) cs := rfl
theorem fl_tup {f : Nat} {cs : List D} : flat (f + 1) (.tup cs) = flatL (flat f) cs := rfl
theorem fl_ptr {f : Nat} {d : D} : flat (f + 1) (.ptr d) = false := rfl
theorem fl_fn {f : Nat} {g : Fn} {a b : List D} : flat (f + 1) (.fn g a b) = false := rfl
theorem fl_iface {f : Nat} {t : TypeId} {d : D} : flat (f + 1) (.iface t d) = false := rfl
section
variable {gO : Nat → Option Ob} {f : Nat}
theorem sn_val {v : Value} : snap gO (f + 1) (.val v) = some (.val v, []) := rfl
theorem sn_sl {nl : Bool} {els : List D} {sz : Nat} {cap : Option Nat} : snap gO (f + 1) (.sl nl els sz cap) = some (.sl nl els sz none, []) := rfl
theorem sn_ptr {d : D} : snap gO (f + 1) (.ptr d) = some (.ptr d, []) := rfl
theorem sn_agg {cs : List D} : snap gO (f + 1) (.agg cs) = match snapAll (snap gO f) cs with | some (cs, r) => some (.agg cs, r) | none => none := rfl
theorem sn_tup {cs : List D} : snap gO (f + 1) (.tup cs) = match snapAll (snap gO f) cs with | some (cs, r) => some (.tup cs, r) | none => none := rfl
theorem sn_fn {g : Fn} {a b : List D} : snap gO (f + 1) (.fn g a b) = match snapAll (snap gO f) a, snapAll (snap gO f) b with | some (a, r), some (b, r') => some (.fn g a b, r ++ r') | _, _ => none := rfl
theorem sn_lref {o i sz : Nat} : snap gO (f + 1) (.lref o i sz 0) = match gO o with
      | some ob => if ob.sz = sz then match ob.els[i]? with
        | some e => match snap gO f e with | some (e, r) => some (.ptr e, o :: r) | none => none
        | none => none
        else none
      | none => none := rfl
theorem sn_lsl {o off len sz : Nat} {cap : Option Nat} : snap gO (f + 1) (.lsl o off len sz cap) = match gO o with
      | some ob => if ob.sz = sz && decide (off + len ≤ ob.els.length) then
        match snapAll (snap gO f) ((ob.els.drop off).take len) with | some (es, r) => some (.sl false es sz none, o :: r) | none => none
        else none
      | none => none := rfl
end
/-- A part of code. -/
def zB : List Nat → Code → Code
  | [], c => c
  | i :: p, c => match c with
    | .seq a b => match i with | 0 => zB p a | _ => zB p b
    | .cond _ a b => match i with | 0 => zB p a | _ => zB p b
    | .block _ a => zB p a
    | .loop a => zB p a
    | .scope a => zB p a
    | c => c
def zo (fn : Func) : Code := match fn.body with | some c => c | none => .skip
/-! ### functions -/
/-- What is made of a function's end. -/
def finF (C : Cfg) (fn : Func) (e : Exit) (st : St) : Option (D × List (Nat × Ob) × Nat) := match e with
  | .normal => match resAll C st fn.results.toList with | some ds => some (tupOf ds, st.objs, st.nxt) | none => none
  | .ret => match resAll C st fn.results.toList with | some ds => some (tupOf ds, st.objs, st.nxt) | none => none
  | _ => none
def finP (C : Cfg) (fn : Func) (e : Exit) (st : St) : Option D := match finF C fn e st with
  | some (d, objs, _) => match snap (zH objs) fuelD d with
    | some (d, _) => some d
    | none => none
  | none => none
theorem w_fn {K : FuncId} {args : List D} {nxt : Nat} {fn : Func} {objs : List (Nat × Ob)} {r : Option (D × List (Nat × Ob) × Nat)} (hf : C.fn K = some fn) (hb : fn.body = some c) (h : EvC C S K (finF C fn) c [] ⟨max fn.ntmps args.length, zi 0 args, objs, nxt, nxt⟩ = r) :
    runFn C S K args objs nxt = r := by
  rw [← h]
  simp only [runFn, hf, hb, EvC]
  cases zR C S K c ⟨max fn.ntmps args.length, zi 0 args, objs, nxt, nxt⟩ with
  | none => rfl
  | some p => obtain ⟨e, st'⟩ := p; cases e <;> rfl
theorem zp {K : FuncId} {args : List D} {fn : Func} {d : D} (hx : C.ext K = none) (hf : C.fn K = some fn) (hb : fn.body = some c) {n : Nat} (hn : max fn.ntmps args.length = n) (h : EvC C (lim C) K (finP C fn) c [] ⟨n, zi 0 args, [], 0, 0⟩ = some d) :
    (lim C).pure K args = some d := by
  subst hn
  refine pure_of ?_
  rw [← h]
  simp only [runPure, hx]
  rw [w_fn (r := EvC C (lim C) K (finF C fn) c [] ⟨max fn.ntmps args.length, zi 0 args, [], 0, 0⟩) hf hb rfl]
  simp only [EvC]
  cases zR C (lim C) K c ⟨max fn.ntmps args.length, zi 0 args, [], 0, 0⟩ with
  | none => rfl
  | some p => obtain ⟨e, st'⟩ := p; rfl
theorem w_inl {K : FuncId} {args : List D} {nxt : Nat} {fn : Func} {objs : List (Nat × Ob)} {q : D × List (Nat × Ob) × Nat} (hx : C.xinl K = none) (hf : C.fn K = some fn) (hb : fn.body = some c) {n : Nat} (hn : max fn.ntmps args.length = n) (h : EvC C (lim C) K (finF C fn) c [] ⟨n, zi 0 args, objs, nxt, nxt⟩ = some q) :
    (lim C).inl K args objs nxt = some q := by
  subst hn
  refine inl_of ?_
  simp only [runInl, hx]
  exact w_fn hf hb h
end
set_option linter.defProp false
/-- Several equations in one. -/
def bO := (And.intro (And.intro (And.intro (And.intro (And.intro @on_int @oc_int) (And.intro @ce_int @on_bool)) (And.intro (And.intro @oc_bool @ce_bool) (And.intro @on_str (And.intro @oc_str @ce_str)))) (And.intro (And.intro (And.intro @on_vptr @oc_vptr) (And.intro @ce_vptr (And.intro @on_vnf @oc_vnf))) (And.intro (And.intro @ce_vnf @on_vni) (And.intro @oc_vni (And.intro @ce_vni @on_sl))))) (And.intro (And.intro (And.intro (And.intro @oc_sl @ce_sl) (And.intro @on_ptr (And.intro @oc_ptr @ce_ptr))) (And.intro (And.intro @on_lref @oc_lref) (And.intro @ce_lref (And.intro @on_lsl @oc_lsl)))) (And.intro (And.intro (And.intro @ce_lsl @on_fn) (And.intro @oc_fn (And.intro @ce_fn @on_iface))) (And.intro (And.intro @oc_iface @ce_iface) (And.intro @on_agg (And.intro @oc_agg @ce_agg))))))
/-- Several equations in one. -/
def bS := (And.intro (And.intro (And.intro (And.intro @sn_val @sn_sl) (And.intro @sn_ptr (And.intro @sn_agg @sn_tup))) (And.intro (And.intro @sn_fn @sn_lref) (And.intro @sn_lsl (And.intro @callPure_eq @frz_nil)))) (And.intro (And.intro (And.intro @frz_true @frz_false) (And.intro @fl_val (And.intro @fl_nil @fl_sl))) (And.intro (And.intro @fl_agg @fl_tup) (And.intro @fl_ptr (And.intro @fl_fn @fl_iface)))))
/-- Several equations in one. -/
def bI := (And.intro (And.intro (And.intro (And.intro @ids_val @ids_sl) (And.intro @ids_ptr @ids_lref)) (And.intro (And.intro @ids_lsl @ids_agg) (And.intro @ids_tup @ids_unk))) (And.intro (And.intro (And.intro @ren_val @ren_sl) (And.intro @ren_ptr @ren_lref)) (And.intro (And.intro @ren_lsl @ren_agg) (And.intro @ren_tup @ren_unk))))
/-- Several equations in one. -/
def bD := (And.intro (And.intro (And.intro @dd_val @dd_sl) (And.intro @dd_ptr (And.intro @dd_lsl @dd_lref))) (And.intro (And.intro @di_val @di_sl) (And.intro @di_ptr (And.intro @di_lsl @di_lref))))
/-- Several equations in one. -/
def bW := (And.intro (And.intro (And.intro (And.intro @w_skip @w_label) (And.intro @w_ret (And.intro @w_exit @w_seq))) (And.intro (And.intro @w_block (And.intro @w_scope @w_region)) (And.intro @w_drawn (And.intro @w_code @w_code_ret)))) (And.intro (And.intro (And.intro @w_code_exit @w_inblock) (And.intro @w_block_ret (And.intro @w_block_exit @w_inscope))) (And.intro (And.intro @w_scope_ret (And.intro @w_scope_exit @w_loop_ret)) (And.intro @w_loop_exit (And.intro @w_end @u_nil)))))
/-- The size of the elements of a slice that may be nil. -/
def zs (b : Bool) (n : Nat) : Nat := match b with | true => 0 | false => n
theorem zQ {n : Nat} : zs false n = n := rfl
theorem zs_true {n : Nat} : zs true n = 0 := rfl
attribute [go_sem] zs_true clearD evOp zF get eqb_dec ltb_dec decide_true decide_false cond_true cond_false evBox evAlloc zeroOk zeroD allOne Bool.and_true Bool.true_and Bool.and_self Bool.and_false Bool.false_and Bool.or_false Bool.or_true Bool.false_or Bool.true_or Bool.not_true Bool.not_false if_true newOb List.length_cons List.length_nil just justO evFieldAddr evField fieldOf List.getElem?_cons_zero List.getElem?_cons_succ Nat.zero_add Nat.add_zero Nat.one_ne_zero evLoad evStore setPart elAt zH Ty.isAgg binD binVal binNil nilKind neqOf kindCode binInt isConstO ofV ofCell evPick Bool.false_eq_true if_false List.take List.drop List.map_cons List.map_nil List.append_nil List.nil_append List.cons_append List.set unD callD snapAll fuelD flatL freeze builtinD lenT evIndexAddr ixSlice ixArr intOfD Int.toNat_natCast Int.natCast_nonneg Int.toNat_zero Int.le_refl Nat.zero_mul Nat.mul_zero convD evExtract buildD fillAgg fillCells placesOf argP eqD eqParts onVals eqVal isAggD Nat.le_refl Array.toList_map List.size_toArray List.getElem?_toArray Nat.sub_zero Nat.mul_one evIndex ixVal bO bS putT ins applyUpd oins odel finP finF resAll resOf tupOf evBuildSlice sliceElem fillEls List.replicate appendD appendE elemsD allOk appSl appLsl newRow isSl List.isEmpty evSlice sliceOf slSlice lslSlice optBound boundD capBehind Option.map_some Option.map_none Option.isNone Option.isSome Option.getD_none Option.getD_some rdOf gc gc0 gcWith rootsT keepT rootsO ids_val ids_sl ids_ptr ids_lref ids_lsl ids_agg ids_tup ids_unk idsL liveFrom_nil liveFrom_succ memN fromPin renT ren_val ren_sl ren_ptr ren_lref ren_lsl ren_agg ren_tup ren_unk renN placeOf pinO renO renOb Nat.not_lt_zero Nat.lt_irrefl deepen deepT deepTI deepO deepOI deepA deepAI deepEl deepElI catI
attribute [irreducible] EvC EvU EvD EvL zO Put
end Go.VS
namespace Go.VS
open Go Go.Proofs
noncomputable def cfg : Cfg := { P := Tryd.prog, fn := zr.find, ty := zS.find, keep := find2 keepTab, inl := fun K => memN K [58,59,115,116,24,25,62], ext := fun _ => none, xinl := fun _ => none, glob := fun g => if g = 0 then some (.agg [I 1, I 1]) else none, eqok := fun t => (eqTab.find t).isSome }
theorem cfg_fn : cfg.fn = zr.find := rfl
theorem cfg_ty : cfg.ty = zS.find := rfl
theorem cfg_eqok (t : TypeId) : cfg.eqok t = (eqTab.find t).isSome := rfl
theorem zk (K : FuncId) : cfg.ext K = none := rfl
theorem cfg_xinl (K : FuncId) : cfg.xinl K = none := rfl
theorem ck {S : Sm} {objs : List (Nat × Ob)} {nxt K : Nat} {args : List D} {fn : Func} (h : zr.find K = some fn) (hi : memN K [58,59,115,116,24,25,62] = false) : zq cfg S objs nxt K args = zg S objs nxt K args := by
  simp only [zq, cfg_fn, h]
  rw [show cfg.inl K = memN K [58,59,115,116,24,25,62] from rfl, hi]
  rfl
theorem lck2 {S : Sm} {objs : List (Nat × Ob)} {nxt : Nat} {args : List D} : zq cfg S objs nxt 2 args = zg S objs nxt 2 args := ck cfn2 rfl
theorem lck3 {S : Sm} {objs : List (Nat × Ob)} {nxt : Nat} {args : List D} : zq cfg S objs nxt 3 args = zg S objs nxt 3 args := ck cfn3 rfl
theorem lck4 {S : Sm} {objs : List (Nat × Ob)} {nxt : Nat} {args : List D} : zq cfg S objs nxt 4 args = zg S objs nxt 4 args := ck cfn4 rfl
theorem lck5 {S : Sm} {objs : List (Nat × Ob)} {nxt : Nat} {args : List D} : zq cfg S objs nxt 5 args = zg S objs nxt 5 args := ck cfn5 rfl
theorem lck6 {S : Sm} {objs : List (Nat × Ob)} {nxt : Nat} {args : List D} : zq cfg S objs nxt 6 args = zg S objs nxt 6 args := ck cfn6 rfl
theorem lck7 {S : Sm} {objs : List (Nat × Ob)} {nxt : Nat} {args : List D} : zq cfg S objs nxt 7 args = zg S objs nxt 7 args := ck cfn7 rfl
theorem lck8 {S : Sm} {objs : List (Nat × Ob)} {nxt : Nat} {args : List D} : zq cfg S objs nxt 8 args = zg S objs nxt 8 args := ck cfn8 rfl
theorem lck9 {S : Sm} {objs : List (Nat × Ob)} {nxt : Nat} {args : List D} : zq cfg S objs nxt 9 args = zg S objs nxt 9 args := ck cfn9 rfl
theorem lck10 {S : Sm} {objs : List (Nat × Ob)} {nxt : Nat} {args : List D} : zq cfg S objs nxt 10 args = zg S objs nxt 10 args := ck cfn10 rfl
theorem lck11 {S : Sm} {objs : List (Nat × Ob)} {nxt : Nat} {args : List D} : zq cfg S objs nxt 11 args = zg S objs nxt 11 args := ck cfn11 rfl
theorem lck12 {S : Sm} {objs : List (Nat × Ob)} {nxt : Nat} {args : List D} : zq cfg S objs nxt 12 args = zg S objs nxt 12 args := ck cfn12 rfl
theorem lck13 {S : Sm} {objs : List (Nat × Ob)} {nxt : Nat} {args : List D} : zq cfg S objs nxt 13 args = zg S objs nxt 13 args := ck cfn13 rfl
theorem lck14 {S : Sm} {objs : List (Nat × Ob)} {nxt : Nat} {args : List D} : zq cfg S objs nxt 14 args = zg S objs nxt 14 args := ck cfn14 rfl
theorem lck15 {S : Sm} {objs : List (Nat × Ob)} {nxt : Nat} {args : List D} : zq cfg S objs nxt 15 args = zg S objs nxt 15 args := ck cfn15 rfl
theorem lck16 {S : Sm} {objs : List (Nat × Ob)} {nxt : Nat} {args : List D} : zq cfg S objs nxt 16 args = zg S objs nxt 16 args := ck cfn16 rfl
theorem lck17 {S : Sm} {objs : List (Nat × Ob)} {nxt : Nat} {args : List D} : zq cfg S objs nxt 17 args = zg S objs nxt 17 args := ck cfn17 rfl
theorem lck18 {S : Sm} {objs : List (Nat × Ob)} {nxt : Nat} {args : List D} : zq cfg S objs nxt 18 args = zg S objs nxt 18 args := ck cfn18 rfl
theorem lck19 {S : Sm} {objs : List (Nat × Ob)} {nxt : Nat} {args : List D} : zq cfg S objs nxt 19 args = zg S objs nxt 19 args := ck cfn19 rfl
theorem lck20 {S : Sm} {objs : List (Nat × Ob)} {nxt : Nat} {args : List D} : zq cfg S objs nxt 20 args = zg S objs nxt 20 args := ck cfn20 rfl
theorem lck21 {S : Sm} {objs : List (Nat × Ob)} {nxt : Nat} {args : List D} : zq cfg S objs nxt 21 args = zg S objs nxt 21 args := ck cfn21 rfl
theorem lck22 {S : Sm} {objs : List (Nat × Ob)} {nxt : Nat} {args : List D} : zq cfg S objs nxt 22 args = zg S objs nxt 22 args := ck cfn22 rfl
theorem lck23 {S : Sm} {objs : List (Nat × Ob)} {nxt : Nat} {args : List D} : zq cfg S objs nxt 23 args = zg S objs nxt 23 args := ck cfn23 rfl
theorem lck26 {S : Sm} {objs : List (Nat × Ob)} {nxt : Nat} {args : List D} : zq cfg S objs nxt 26 args = zg S objs nxt 26 args := ck cfn26 rfl
theorem lck27 {S : Sm} {objs : List (Nat × Ob)} {nxt : Nat} {args : List D} : zq cfg S objs nxt 27 args = zg S objs nxt 27 args := ck cfn27 rfl
theorem lck28 {S : Sm} {objs : List (Nat × Ob)} {nxt : Nat} {args : List D} : zq cfg S objs nxt 28 args = zg S objs nxt 28 args := ck cfn28 rfl
theorem lck29 {S : Sm} {objs : List (Nat × Ob)} {nxt : Nat} {args : List D} : zq cfg S objs nxt 29 args = zg S objs nxt 29 args := ck cfn29 rfl
theorem lck30 {S : Sm} {objs : List (Nat × Ob)} {nxt : Nat} {args : List D} : zq cfg S objs nxt 30 args = zg S objs nxt 30 args := ck cfn30 rfl
theorem lck31 {S : Sm} {objs : List (Nat × Ob)} {nxt : Nat} {args : List D} : zq cfg S objs nxt 31 args = zg S objs nxt 31 args := ck cfn31 rfl
theorem lck32 {S : Sm} {objs : List (Nat × Ob)} {nxt : Nat} {args : List D} : zq cfg S objs nxt 32 args = zg S objs nxt 32 args := ck cfn32 rfl
theorem lck33 {S : Sm} {objs : List (Nat × Ob)} {nxt : Nat} {args : List D} : zq cfg S objs nxt 33 args = zg S objs nxt 33 args := ck cfn33 rfl
theorem lck34 {S : Sm} {objs : List (Nat × Ob)} {nxt : Nat} {args : List D} : zq cfg S objs nxt 34 args = zg S objs nxt 34 args := ck cfn34 rfl
theorem lck35 {S : Sm} {objs : List (Nat × Ob)} {nxt : Nat} {args : List D} : zq cfg S objs nxt 35 args = zg S objs nxt 35 args := ck cfn35 rfl
theorem lck36 {S : Sm} {objs : List (Nat × Ob)} {nxt : Nat} {args : List D} : zq cfg S objs nxt 36 args = zg S objs nxt 36 args := ck cfn36 rfl
theorem lck37 {S : Sm} {objs : List (Nat × Ob)} {nxt : Nat} {args : List D} : zq cfg S objs nxt 37 args = zg S objs nxt 37 args := ck cfn37 rfl
theorem lck38 {S : Sm} {objs : List (Nat × Ob)} {nxt : Nat} {args : List D} : zq cfg S objs nxt 38 args = zg S objs nxt 38 args := ck cfn38 rfl
theorem lck39 {S : Sm} {objs : List (Nat × Ob)} {nxt : Nat} {args : List D} : zq cfg S objs nxt 39 args = zg S objs nxt 39 args := ck cfn39 rfl
theorem lck40 {S : Sm} {objs : List (Nat × Ob)} {nxt : Nat} {args : List D} : zq cfg S objs nxt 40 args = zg S objs nxt 40 args := ck cfn40 rfl
theorem lck41 {S : Sm} {objs : List (Nat × Ob)} {nxt : Nat} {args : List D} : zq cfg S objs nxt 41 args = zg S objs nxt 41 args := ck cfn41 rfl
theorem lck42 {S : Sm} {objs : List (Nat × Ob)} {nxt : Nat} {args : List D} : zq cfg S objs nxt 42 args = zg S objs nxt 42 args := ck cfn42 rfl
theorem lck43 {S : Sm} {objs : List (Nat × Ob)} {nxt : Nat} {args : List D} : zq cfg S objs nxt 43 args = zg S objs nxt 43 args := ck cfn43 rfl
theorem lck44 {S : Sm} {objs : List (Nat × Ob)} {nxt : Nat} {args : List D} : zq cfg S objs nxt 44 args = zg S objs nxt 44 args := ck cfn44 rfl
theorem lck45 {S : Sm} {objs : List (Nat × Ob)} {nxt : Nat} {args : List D} : zq cfg S objs nxt 45 args = zg S objs nxt 45 args := ck cfn45 rfl
theorem lck46 {S : Sm} {objs : List (Nat × Ob)} {nxt : Nat} {args : List D} : zq cfg S objs nxt 46 args = zg S objs nxt 46 args := ck cfn46 rfl
theorem lck47 {S : Sm} {objs : List (Nat × Ob)} {nxt : Nat} {args : List D} : zq cfg S objs nxt 47 args = zg S objs nxt 47 args := ck cfn47 rfl
theorem lck48 {S : Sm} {objs : List (Nat × Ob)} {nxt : Nat} {args : List D} : zq cfg S objs nxt 48 args = zg S objs nxt 48 args := ck cfn48 rfl
theorem lck49 {S : Sm} {objs : List (Nat × Ob)} {nxt : Nat} {args : List D} : zq cfg S objs nxt 49 args = zg S objs nxt 49 args := ck cfn49 rfl
theorem lck50 {S : Sm} {objs : List (Nat × Ob)} {nxt : Nat} {args : List D} : zq cfg S objs nxt 50 args = zg S objs nxt 50 args := ck cfn50 rfl
theorem lck51 {S : Sm} {objs : List (Nat × Ob)} {nxt : Nat} {args : List D} : zq cfg S objs nxt 51 args = zg S objs nxt 51 args := ck cfn51 rfl
theorem lck52 {S : Sm} {objs : List (Nat × Ob)} {nxt : Nat} {args : List D} : zq cfg S objs nxt 52 args = zg S objs nxt 52 args := ck cfn52 rfl
theorem lck53 {S : Sm} {objs : List (Nat × Ob)} {nxt : Nat} {args : List D} : zq cfg S objs nxt 53 args = zg S objs nxt 53 args := ck cfn53 rfl
theorem lck54 {S : Sm} {objs : List (Nat × Ob)} {nxt : Nat} {args : List D} : zq cfg S objs nxt 54 args = zg S objs nxt 54 args := ck cfn54 rfl
theorem lck55 {S : Sm} {objs : List (Nat × Ob)} {nxt : Nat} {args : List D} : zq cfg S objs nxt 55 args = zg S objs nxt 55 args := ck cfn55 rfl
theorem lck56 {S : Sm} {objs : List (Nat × Ob)} {nxt : Nat} {args : List D} : zq cfg S objs nxt 56 args = zg S objs nxt 56 args := ck cfn56 rfl
theorem lck57 {S : Sm} {objs : List (Nat × Ob)} {nxt : Nat} {args : List D} : zq cfg S objs nxt 57 args = zg S objs nxt 57 args := ck cfn57 rfl
theorem lck60 {S : Sm} {objs : List (Nat × Ob)} {nxt : Nat} {args : List D} : zq cfg S objs nxt 60 args = zg S objs nxt 60 args := ck cfn60 rfl
theorem lck61 {S : Sm} {objs : List (Nat × Ob)} {nxt : Nat} {args : List D} : zq cfg S objs nxt 61 args = zg S objs nxt 61 args := ck cfn61 rfl
theorem lck63 {S : Sm} {objs : List (Nat × Ob)} {nxt : Nat} {args : List D} : zq cfg S objs nxt 63 args = zg S objs nxt 63 args := ck cfn63 rfl
theorem lck64 {S : Sm} {objs : List (Nat × Ob)} {nxt : Nat} {args : List D} : zq cfg S objs nxt 64 args = zg S objs nxt 64 args := ck cfn64 rfl
theorem lck65 {S : Sm} {objs : List (Nat × Ob)} {nxt : Nat} {args : List D} : zq cfg S objs nxt 65 args = zg S objs nxt 65 args := ck cfn65 rfl
theorem lck66 {S : Sm} {objs : List (Nat × Ob)} {nxt : Nat} {args : List D} : zq cfg S objs nxt 66 args = zg S objs nxt 66 args := ck cfn66 rfl
theorem lck67 {S : Sm} {objs : List (Nat × Ob)} {nxt : Nat} {args : List D} : zq cfg S objs nxt 67 args = zg S objs nxt 67 args := ck cfn67 rfl
theorem lck68 {S : Sm} {objs : List (Nat × Ob)} {nxt : Nat} {args : List D} : zq cfg S objs nxt 68 args = zg S objs nxt 68 args := ck cfn68 rfl
theorem lck69 {S : Sm} {objs : List (Nat × Ob)} {nxt : Nat} {args : List D} : zq cfg S objs nxt 69 args = zg S objs nxt 69 args := ck cfn69 rfl
theorem lck70 {S : Sm} {objs : List (Nat × Ob)} {nxt : Nat} {args : List D} : zq cfg S objs nxt 70 args = zg S objs nxt 70 args := ck cfn70 rfl
theorem lck71 {S : Sm} {objs : List (Nat × Ob)} {nxt : Nat} {args : List D} : zq cfg S objs nxt 71 args = zg S objs nxt 71 args := ck cfn71 rfl
theorem lck72 {S : Sm} {objs : List (Nat × Ob)} {nxt : Nat} {args : List D} : zq cfg S objs nxt 72 args = zg S objs nxt 72 args := ck cfn72 rfl
theorem lck73 {S : Sm} {objs : List (Nat × Ob)} {nxt : Nat} {args : List D} : zq cfg S objs nxt 73 args = zg S objs nxt 73 args := ck cfn73 rfl
theorem lck74 {S : Sm} {objs : List (Nat × Ob)} {nxt : Nat} {args : List D} : zq cfg S objs nxt 74 args = zg S objs nxt 74 args := ck cfn74 rfl
theorem lck75 {S : Sm} {objs : List (Nat × Ob)} {nxt : Nat} {args : List D} : zq cfg S objs nxt 75 args = zg S objs nxt 75 args := ck cfn75 rfl
theorem lck76 {S : Sm} {objs : List (Nat × Ob)} {nxt : Nat} {args : List D} : zq cfg S objs nxt 76 args = zg S objs nxt 76 args := ck cfn76 rfl
theorem lck77 {S : Sm} {objs : List (Nat × Ob)} {nxt : Nat} {args : List D} : zq cfg S objs nxt 77 args = zg S objs nxt 77 args := ck cfn77 rfl
theorem lck78 {S : Sm} {objs : List (Nat × Ob)} {nxt : Nat} {args : List D} : zq cfg S objs nxt 78 args = zg S objs nxt 78 args := ck cfn78 rfl
theorem lck79 {S : Sm} {objs : List (Nat × Ob)} {nxt : Nat} {args : List D} : zq cfg S objs nxt 79 args = zg S objs nxt 79 args := ck cfn79 rfl
theorem lck80 {S : Sm} {objs : List (Nat × Ob)} {nxt : Nat} {args : List D} : zq cfg S objs nxt 80 args = zg S objs nxt 80 args := ck cfn80 rfl
theorem lck81 {S : Sm} {objs : List (Nat × Ob)} {nxt : Nat} {args : List D} : zq cfg S objs nxt 81 args = zg S objs nxt 81 args := ck cfn81 rfl
theorem lck82 {S : Sm} {objs : List (Nat × Ob)} {nxt : Nat} {args : List D} : zq cfg S objs nxt 82 args = zg S objs nxt 82 args := ck cfn82 rfl
theorem lck83 {S : Sm} {objs : List (Nat × Ob)} {nxt : Nat} {args : List D} : zq cfg S objs nxt 83 args = zg S objs nxt 83 args := ck cfn83 rfl
theorem lck84 {S : Sm} {objs : List (Nat × Ob)} {nxt : Nat} {args : List D} : zq cfg S objs nxt 84 args = zg S objs nxt 84 args := ck cfn84 rfl
theorem lck85 {S : Sm} {objs : List (Nat × Ob)} {nxt : Nat} {args : List D} : zq cfg S objs nxt 85 args = zg S objs nxt 85 args := ck cfn85 rfl
theorem lck86 {S : Sm} {objs : List (Nat × Ob)} {nxt : Nat} {args : List D} : zq cfg S objs nxt 86 args = zg S objs nxt 86 args := ck cfn86 rfl
theorem lck87 {S : Sm} {objs : List (Nat × Ob)} {nxt : Nat} {args : List D} : zq cfg S objs nxt 87 args = zg S objs nxt 87 args := ck cfn87 rfl
theorem lck88 {S : Sm} {objs : List (Nat × Ob)} {nxt : Nat} {args : List D} : zq cfg S objs nxt 88 args = zg S objs nxt 88 args := ck cfn88 rfl
theorem lck89 {S : Sm} {objs : List (Nat × Ob)} {nxt : Nat} {args : List D} : zq cfg S objs nxt 89 args = zg S objs nxt 89 args := ck cfn89 rfl
theorem lck90 {S : Sm} {objs : List (Nat × Ob)} {nxt : Nat} {args : List D} : zq cfg S objs nxt 90 args = zg S objs nxt 90 args := ck cfn90 rfl
theorem lck91 {S : Sm} {objs : List (Nat × Ob)} {nxt : Nat} {args : List D} : zq cfg S objs nxt 91 args = zg S objs nxt 91 args := ck cfn91 rfl
theorem lck92 {S : Sm} {objs : List (Nat × Ob)} {nxt : Nat} {args : List D} : zq cfg S objs nxt 92 args = zg S objs nxt 92 args := ck cfn92 rfl
theorem lck93 {S : Sm} {objs : List (Nat × Ob)} {nxt : Nat} {args : List D} : zq cfg S objs nxt 93 args = zg S objs nxt 93 args := ck cfn93 rfl
theorem lck94 {S : Sm} {objs : List (Nat × Ob)} {nxt : Nat} {args : List D} : zq cfg S objs nxt 94 args = zg S objs nxt 94 args := ck cfn94 rfl
theorem lck95 {S : Sm} {objs : List (Nat × Ob)} {nxt : Nat} {args : List D} : zq cfg S objs nxt 95 args = zg S objs nxt 95 args := ck cfn95 rfl
theorem lck96 {S : Sm} {objs : List (Nat × Ob)} {nxt : Nat} {args : List D} : zq cfg S objs nxt 96 args = zg S objs nxt 96 args := ck cfn96 rfl
theorem lck97 {S : Sm} {objs : List (Nat × Ob)} {nxt : Nat} {args : List D} : zq cfg S objs nxt 97 args = zg S objs nxt 97 args := ck cfn97 rfl
theorem lck98 {S : Sm} {objs : List (Nat × Ob)} {nxt : Nat} {args : List D} : zq cfg S objs nxt 98 args = zg S objs nxt 98 args := ck cfn98 rfl
theorem lck99 {S : Sm} {objs : List (Nat × Ob)} {nxt : Nat} {args : List D} : zq cfg S objs nxt 99 args = zg S objs nxt 99 args := ck cfn99 rfl
theorem lck100 {S : Sm} {objs : List (Nat × Ob)} {nxt : Nat} {args : List D} : zq cfg S objs nxt 100 args = zg S objs nxt 100 args := ck cfn100 rfl
theorem lck101 {S : Sm} {objs : List (Nat × Ob)} {nxt : Nat} {args : List D} : zq cfg S objs nxt 101 args = zg S objs nxt 101 args := ck cfn101 rfl
theorem lck102 {S : Sm} {objs : List (Nat × Ob)} {nxt : Nat} {args : List D} : zq cfg S objs nxt 102 args = zg S objs nxt 102 args := ck cfn102 rfl
theorem lck103 {S : Sm} {objs : List (Nat × Ob)} {nxt : Nat} {args : List D} : zq cfg S objs nxt 103 args = zg S objs nxt 103 args := ck cfn103 rfl
theorem lck104 {S : Sm} {objs : List (Nat × Ob)} {nxt : Nat} {args : List D} : zq cfg S objs nxt 104 args = zg S objs nxt 104 args := ck cfn104 rfl
theorem lck105 {S : Sm} {objs : List (Nat × Ob)} {nxt : Nat} {args : List D} : zq cfg S objs nxt 105 args = zg S objs nxt 105 args := ck cfn105 rfl
theorem lck106 {S : Sm} {objs : List (Nat × Ob)} {nxt : Nat} {args : List D} : zq cfg S objs nxt 106 args = zg S objs nxt 106 args := ck cfn106 rfl
theorem lck107 {S : Sm} {objs : List (Nat × Ob)} {nxt : Nat} {args : List D} : zq cfg S objs nxt 107 args = zg S objs nxt 107 args := ck cfn107 rfl
theorem lck108 {S : Sm} {objs : List (Nat × Ob)} {nxt : Nat} {args : List D} : zq cfg S objs nxt 108 args = zg S objs nxt 108 args := ck cfn108 rfl
theorem lck109 {S : Sm} {objs : List (Nat × Ob)} {nxt : Nat} {args : List D} : zq cfg S objs nxt 109 args = zg S objs nxt 109 args := ck cfn109 rfl
theorem lck110 {S : Sm} {objs : List (Nat × Ob)} {nxt : Nat} {args : List D} : zq cfg S objs nxt 110 args = zg S objs nxt 110 args := ck cfn110 rfl
theorem lck111 {S : Sm} {objs : List (Nat × Ob)} {nxt : Nat} {args : List D} : zq cfg S objs nxt 111 args = zg S objs nxt 111 args := ck cfn111 rfl
theorem lck112 {S : Sm} {objs : List (Nat × Ob)} {nxt : Nat} {args : List D} : zq cfg S objs nxt 112 args = zg S objs nxt 112 args := ck cfn112 rfl
theorem lck113 {S : Sm} {objs : List (Nat × Ob)} {nxt : Nat} {args : List D} : zq cfg S objs nxt 113 args = zg S objs nxt 113 args := ck cfn113 rfl
theorem lck114 {S : Sm} {objs : List (Nat × Ob)} {nxt : Nat} {args : List D} : zq cfg S objs nxt 114 args = zg S objs nxt 114 args := ck cfn114 rfl
theorem lck117 {S : Sm} {objs : List (Nat × Ob)} {nxt : Nat} {args : List D} : zq cfg S objs nxt 117 args = zg S objs nxt 117 args := ck cfn117 rfl
theorem lck118 {S : Sm} {objs : List (Nat × Ob)} {nxt : Nat} {args : List D} : zq cfg S objs nxt 118 args = zg S objs nxt 118 args := ck cfn118 rfl
theorem lck119 {S : Sm} {objs : List (Nat × Ob)} {nxt : Nat} {args : List D} : zq cfg S objs nxt 119 args = zg S objs nxt 119 args := ck cfn119 rfl
theorem lck120 {S : Sm} {objs : List (Nat × Ob)} {nxt : Nat} {args : List D} : zq cfg S objs nxt 120 args = zg S objs nxt 120 args := ck cfn120 rfl
theorem lck141 {S : Sm} {objs : List (Nat × Ob)} {nxt : Nat} {args : List D} : zq cfg S objs nxt 141 args = zg S objs nxt 141 args := ck cfn141 rfl
set_option linter.defProp false
def cks := (And.intro (And.intro (And.intro (And.intro (And.intro (And.intro @lck2 (And.intro @lck3 @lck4)) (And.intro (And.intro @lck5 @lck6) (And.intro @lck7 @lck8))) (And.intro (And.intro @lck9 (And.intro @lck10 @lck11)) (And.intro (And.intro @lck12 @lck13) (And.intro @lck14 @lck15)))) (And.intro (And.intro (And.intro @lck16 (And.intro @lck17 @lck18)) (And.intro (And.intro @lck19 @lck20) (And.intro @lck21 @lck22))) (And.intro (And.intro @lck23 (And.intro @lck26 @lck27)) (And.intro (And.intro @lck28 @lck29) (And.intro @lck30 @lck31))))) (And.intro (And.intro (And.intro (And.intro @lck32 (And.intro @lck33 @lck34)) (And.intro (And.intro @lck35 @lck36) (And.intro @lck37 @lck38))) (And.intro (And.intro @lck39 (And.intro @lck40 @lck41)) (And.intro (And.intro @lck42 @lck43) (And.intro @lck44 @lck45)))) (And.intro (And.intro (And.intro @lck46 (And.intro @lck47 @lck48)) (And.intro (And.intro @lck49 @lck50) (And.intro @lck51 @lck52))) (And.intro (And.intro @lck53 (And.intro @lck54 @lck55)) (And.intro (And.intro @lck56 @lck57) (And.intro @lck60 @lck61)))))) (And.intro (And.intro (And.intro (And.intro (And.intro @lck63 (And.intro @lck64 @lck65)) (And.intro (And.intro @lck66 @lck67) (And.intro @lck68 @lck69))) (And.intro (And.intro @lck70 (And.intro @lck71 @lck72)) (And.intro (And.intro @lck73 @lck74) (And.intro @lck75 @lck76)))) (And.intro (And.intro (And.intro @lck77 (And.intro @lck78 @lck79)) (And.intro (And.intro @lck80 @lck81) (And.intro @lck82 @lck83))) (And.intro (And.intro @lck84 (And.intro @lck85 @lck86)) (And.intro (And.intro @lck87 @lck88) (And.intro @lck89 @lck90))))) (And.intro (And.intro (And.intro (And.intro @lck91 (And.intro @lck92 @lck93)) (And.intro (And.intro @lck94 @lck95) (And.intro @lck96 @lck97))) (And.intro (And.intro @lck98 (And.intro @lck99 @lck100)) (And.intro (And.intro @lck101 @lck102) (And.intro @lck103 @lck104)))) (And.intro (And.intro (And.intro @lck105 (And.intro @lck106 @lck107)) (And.intro (And.intro @lck108 @lck109) (And.intro @lck110 @lck111))) (And.intro (And.intro (And.intro @lck112 @lck113) (And.intro @lck114 @lck117)) (And.intro (And.intro @lck118 @lck119) (And.intro @lck120 @lck141)))))))
attribute [go_sem] tys cks cfg_ty cfg_eqok zQ
set_option maxHeartbeats 0
set_option linter.unusedSimpArgs false

theorem t66 (n d : Int) : (lim cfg).pure 66 [.agg [I n, I d]] = some (B (decide (1 ≤ n) && decide (n ≤ 1125899906842624) && decide (1 ≤ d) && decide (d ≤ 1125899906842624))) := by
  refine zp (zk 66) cfn66 rfl (n := 21) rfl ?_
  simp only [bW, if_true, Nat.reduceEqDiff, if_false, zi]
  repeat' first | (intro hb; first | cases hb | skip) | ((first | apply z6 | apply zc); (· rfl); (· simp (disch := assumption) only [go_sem, Nat.reduceEqDiff, Nat.reduceAdd, zw, zd, Nat.reduceLeDiff, Nat.reduceLT, Nat.reduceMul, List.length_append]; rfl); (· simp only [go_sem, Nat.reduceLT, Nat.reduceEqDiff]; rfl); (· rfl); first | (apply zb; (· simp only [go_sem, Nat.reduceLT]; rfl); (· simp only [go_sem, Nat.reduceLT]; rfl)) | (apply zf; (· simp only [go_sem, Nat.reduceLT]; rfl))) | ((first | apply z9 | apply za); (· rfl); (· simp only [go_sem, Nat.reduceLT]; rfl)) | (apply z8; (· simp only [go_sem, Nat.reduceEqDiff])) | (apply z5; (· simp only [go_sem, Nat.reduceEqDiff])) | (apply ze; (· kernel_rfl); (· kernel_rfl)) | (simp only [bW, if_true, Nat.reduceEqDiff, if_false])
  all_goals simp only [go_sem, Nat.reduceEqDiff, zw, Nat.reduceAdd, Nat.reduceLeDiff, List.length_map, Tryd.f66]
  all_goals first | rfl | (simp_all []; done) | (simp_all []; intros; omega)

theorem t63 (sh : Int) (nm nj : Bool) (ms js : List D) (sm sj : Nat) (s : Int) : (lim cfg).pure 63 [.agg [I sh, .sl nm ms sm none, .sl nj js sj none], I s] = some (B (decide (0 ≤ s) && decide (s < sh))) := by
  refine zp (zk 63) cfn63 rfl (n := 13) rfl ?_
  simp only [bW, if_true, Nat.reduceEqDiff, if_false, zi]
  repeat' first | (intro hb; first | cases hb | skip) | ((first | apply z6 | apply zc); (· rfl); (· simp (disch := assumption) only [go_sem, Nat.reduceEqDiff, Nat.reduceAdd, zw, zd, Nat.reduceLeDiff, Nat.reduceLT, Nat.reduceMul, List.length_append]; rfl); (· simp only [go_sem, Nat.reduceLT, Nat.reduceEqDiff]; rfl); (· rfl); first | (apply zb; (· simp only [go_sem, Nat.reduceLT]; rfl); (· simp only [go_sem, Nat.reduceLT]; rfl)) | (apply zf; (· simp only [go_sem, Nat.reduceLT]; rfl))) | ((first | apply z9 | apply za); (· rfl); (· simp only [go_sem, Nat.reduceLT]; rfl)) | (apply z8; (· simp only [go_sem, Nat.reduceEqDiff])) | (apply z5; (· simp only [go_sem, Nat.reduceEqDiff])) | (apply ze; (· kernel_rfl); (· kernel_rfl)) | (simp only [bW, if_true, Nat.reduceEqDiff, if_false])
  all_goals simp only [go_sem, Nat.reduceEqDiff, zw, Nat.reduceAdd, Nat.reduceLeDiff, List.length_map, Tryd.f63]
  all_goals first | rfl | (simp_all []; done) | (simp_all []; intros; omega)

theorem t64 (x : Int) : (lim cfg).pure 64 [I x] = some (B (decide (x = 0) || decide (x = 1))) := by
  refine zp (zk 64) cfn64 rfl (n := 9) rfl ?_
  simp only [bW, if_true, Nat.reduceEqDiff, if_false, zi]
  repeat' first | (intro hb; first | cases hb | skip) | ((first | apply z6 | apply zc); (· rfl); (· simp (disch := assumption) only [go_sem, Nat.reduceEqDiff, Nat.reduceAdd, zw, zd, Nat.reduceLeDiff, Nat.reduceLT, Nat.reduceMul, List.length_append]; rfl); (· simp only [go_sem, Nat.reduceLT, Nat.reduceEqDiff]; rfl); (· rfl); first | (apply zb; (· simp only [go_sem, Nat.reduceLT]; rfl); (· simp only [go_sem, Nat.reduceLT]; rfl)) | (apply zf; (· simp only [go_sem, Nat.reduceLT]; rfl))) | ((first | apply z9 | apply za); (· rfl); (· simp only [go_sem, Nat.reduceLT]; rfl)) | (apply z8; (· simp only [go_sem, Nat.reduceEqDiff])) | (apply z5; (· simp only [go_sem, Nat.reduceEqDiff])) | (apply ze; (· kernel_rfl); (· kernel_rfl)) | (simp only [bW, if_true, Nat.reduceEqDiff, if_false])
  all_goals simp only [go_sem, Nat.reduceEqDiff, zw, Nat.reduceAdd, Nat.reduceLeDiff, List.length_map, Tryd.f64]
  all_goals first | rfl | (simp_all []; done) | (simp_all []; intros; omega)

theorem t65 (x e : Int) : (lim cfg).pure 65 [I x, I e] = some (B (decide (1 ≤ x) && decide (x ≤ 1000) && decide (0 ≤ e) && decide (e < x))) := by
  refine zp (zk 65) cfn65 rfl (n := 20) rfl ?_
  simp only [bW, if_true, Nat.reduceEqDiff, if_false, zi]
  repeat' first | (intro hb; first | cases hb | skip) | ((first | apply z6 | apply zc); (· rfl); (· simp (disch := assumption) only [go_sem, Nat.reduceEqDiff, Nat.reduceAdd, zw, zd, Nat.reduceLeDiff, Nat.reduceLT, Nat.reduceMul, List.length_append]; rfl); (· simp only [go_sem, Nat.reduceLT, Nat.reduceEqDiff]; rfl); (· rfl); first | (apply zb; (· simp only [go_sem, Nat.reduceLT]; rfl); (· simp only [go_sem, Nat.reduceLT]; rfl)) | (apply zf; (· simp only [go_sem, Nat.reduceLT]; rfl))) | ((first | apply z9 | apply za); (· rfl); (· simp only [go_sem, Nat.reduceLT]; rfl)) | (apply z8; (· simp only [go_sem, Nat.reduceEqDiff])) | (apply z5; (· simp only [go_sem, Nat.reduceEqDiff])) | (apply ze; (· kernel_rfl); (· kernel_rfl)) | (simp only [bW, if_true, Nat.reduceEqDiff, if_false])
  all_goals simp only [go_sem, Nat.reduceEqDiff, zw, Nat.reduceAdd, Nat.reduceLeDiff, List.length_map, Tryd.f65]
  all_goals first | rfl | (simp_all []; done) | (simp_all []; intros; omega)

end Go.VS
namespace Go.VS
open Go Go.Proofs
set_option maxHeartbeats 0
set_option linter.unusedSimpArgs false
structure Mark where
  sheet : Int
  axis : Int
  tru : Int
  seen : Int
  err : Int
structure Join where
  a : Int
  b : Int
  axis : Int
  seenA : Int
  errA : Int
  seenB : Int
  errB : Int
structure Paper where
  sheets : Int
  nm : Bool
  marks : List Mark
  nj : Bool
  joins : List Join
def zm (m : Mark) : D := .agg [I m.sheet, I m.axis, I m.tru, I m.seen, I m.err]
def zj (j : Join) : D := .agg [I j.a, I j.b, I j.axis, I j.seenA, I j.errA, I j.seenB, I j.errB]
@[reducible] def zh (p : Paper) : D := .agg [I p.sheets, .sl p.nm (p.marks.map zm) (zs p.nm 5) none, .sl p.nj (p.joins.map zj) (zs p.nj 7) none]
def Paper.wf (p : Paper) : Prop := (p.nm = true → p.marks = []) ∧ (p.nj = true → p.joins = []) ∧ p.marks.length ≤ 9223372036854775807 ∧ p.joins.length ≤ 9223372036854775807
def zA (p : Paper) (s : Int) : Bool := decide (0 ≤ s) && decide (s < p.sheets)
def isAxis (x : Int) : Bool := decide (x = 0) || decide (x = 1)
def isSeen (x e : Int) : Bool := decide (1 ≤ x) && decide (x ≤ 1000) && decide (0 ≤ e) && decide (e < x)
def markOK (p : Paper) (m : Mark) : Bool := zA p m.sheet && isAxis m.axis && decide (1 ≤ m.tru) && decide (m.tru ≤ 1000) && isSeen m.seen m.err
def joinOK (p : Paper) (j : Join) : Bool := zA p j.a && zA p j.b && !decide (j.a = j.b) && isAxis j.axis && isSeen j.seenA j.errA && isSeen j.seenB j.errB

noncomputable def lp15_4 : Code := zB [1, 1, 0, 1, 0, 0] (zo Tryd.f15)
theorem lk15_4 : cfg.keep 15 (zD lp15_4) = [1, 28, 29, 30] := by kernel_rfl
noncomputable def lp15_10 : Code := zB [1, 1, 1, 0, 1, 0, 0] (zo Tryd.f15)
theorem lk15_10 : cfg.keep 15 (zD lp15_10) = [1, 65, 66, 67] := by kernel_rfl

theorem wrap_i64 {x : Int} (h1 : -9223372036854775808 ≤ x) (h2 : x ≤ 9223372036854775807) : IntKind.i64.wrap x = x := by
  rw [IntKind.wrap_i64]; omega

theorem L15_4 {F : Exit → St → Option D} (p : Paper) (k : List Kt) (x : D) (hwf : p.wf) (hk : ∀ st, get st.tmps 2 = I 30 → zO cfg (lim cfg) 15 F k .ret st = some (I 30)) : ∀ (rest : List Mark) (i : Nat), p.marks.drop i = rest → i ≤ p.marks.length →
    ((∀ m ∈ rest, markOK p m = true) → zO cfg (lim cfg) 15 F k (.exit 0) ⟨113, [(31, B false), (1, .lref 0 0 3 0), (28, .sl p.nm (p.marks.map zm) (zs p.nm 5) none), (29, I p.marks.length), (30, I p.marks.length)], [(0, ⟨[zh p], 3, false⟩)], 1, 0⟩ = some x) →
    ((∃ m ∈ rest, markOK p m = false) → x = I 30) →
    EvL cfg (lim cfg) 15 F lp15_4 k ⟨113, [(1, .lref 0 0 3 0), (28, .sl p.nm (p.marks.map zm) (zs p.nm 5) none), (29, I p.marks.length), (30, I i)], [(0, ⟨[zh p], 3, false⟩)], 1, 0⟩ = some x := by
  intro rest
  induction rest with
  | nil =>
    intro i hd hi h1 h0
    have hi' : i = p.marks.length := by
      have := List.drop_eq_nil_iff.1 hd
      omega
    subst hi'
    refine zv ?_
    dsimp only [lp15_4, zB, zo, Tryd.f15]
    simp only [bW, if_true, Nat.reduceEqDiff, if_false]
    repeat' first | (intro hb; first | cases hb | skip) | ((first | apply z6 | apply zc); (· rfl); (· simp (disch := assumption) only [go_sem, Nat.reduceEqDiff, Nat.reduceAdd, zw, zd, Nat.reduceLeDiff, Nat.reduceLT, Nat.reduceMul, List.length_append, Int.lt_irrefl]; rfl); (· simp only [go_sem, Nat.reduceLT, Nat.reduceEqDiff]; rfl); (· rfl); first | (apply zb; (· simp only [go_sem, Nat.reduceLT]; rfl); (· simp only [go_sem, Nat.reduceLT]; rfl)) | (apply zf; (· simp only [go_sem, Nat.reduceLT]; rfl))) | ((first | apply z9 | apply za); (· rfl); (· simp only [go_sem, Nat.reduceLT]; rfl)) | (apply z8; (· simp only [go_sem, Nat.reduceEqDiff])) | (apply z5; (· simp only [go_sem, Nat.reduceEqDiff])) | (apply ze; (· kernel_rfl); (· kernel_rfl)) | (simp only [bW, if_true, Nat.reduceEqDiff, if_false])
    exact h1 (fun m hm => by cases hm)
  | cons m rest ih =>
    intro i hd hi h1 h0
    have hlt : i < p.marks.length := by
      rcases Nat.lt_or_ge i p.marks.length with h | h
      · exact h
      · rw [List.drop_eq_nil_of_le h] at hd; cases hd
    have hm : p.marks[i]? = some m := by rw [← List.head?_drop, hd]; rfl
    have hx : (p.marks.map zm)[i]? = some (.agg [I m.sheet, I m.axis, I m.tru, I m.seen, I m.err]) := by rw [List.getElem?_map, hm]; rfl
    have hnm : p.nm = false := by
      cases h : p.nm with
      | false => rfl
      | true => rw [hwf.1 h] at hlt; cases hlt
    have hlt' : (i : Int) < (p.marks.length : Int) := by omega
    have hlen := hwf.2.2.1
    have hwr : IntKind.i64.wrap ((i : Int) + 1) = ((i + 1 : Nat) : Int) := by rw [wrap_i64 (by omega) (by omega)]; omega
    refine zv ?_
    dsimp only [lp15_4, zB, zo, Tryd.f15]
    simp only [bW, if_true, Nat.reduceEqDiff, if_false]
    repeat' first | (intro hb; first | cases hb | skip) | ((first | apply z6 | apply zc); (· rfl); (· simp (disch := assumption) only [go_sem, Nat.reduceEqDiff, Nat.reduceAdd, zw, zd, Nat.reduceLeDiff, Nat.reduceLT, Nat.reduceMul, List.length_append, t63, t64, t65, hx, hnm, hlt', hwr]; rfl); (· simp only [go_sem, Nat.reduceLT, Nat.reduceEqDiff]; rfl); (· rfl); first | (apply zb; (· simp only [go_sem, Nat.reduceLT]; rfl); (· simp only [go_sem, Nat.reduceLT]; rfl)) | (apply zf; (· simp only [go_sem, Nat.reduceLT]; rfl))) | ((first | apply z9 | apply za); (· rfl); (· simp only [go_sem, Nat.reduceLT]; rfl)) | (apply z8; (· simp only [go_sem, Nat.reduceEqDiff])) | (apply z5; (· simp only [go_sem, Nat.reduceEqDiff])) | (apply ze; (· kernel_rfl); (· kernel_rfl)) | (simp only [bW, if_true, Nat.reduceEqDiff, if_false])
    all_goals first
    | (have hx0 : x = I 30 := h0 ⟨m, List.mem_cons_self, by
         clear ih h1 h0 hk hwf
         first | (simp_all [markOK, zA, isAxis, isSeen]; done) | (simp_all [markOK, zA, isAxis, isSeen]; intros; omega)⟩
       subst hx0
       exact hk _ rfl)
    | (refine zM lk15_4 (by kernel_rfl) (ih (i + 1) ?_ hlt (fun ha => h1 ?_) (fun ⟨m', hm', hb'⟩ => h0 ⟨m', List.mem_cons_of_mem _ hm', hb'⟩))
       · rw [← List.drop_drop, hd]; rfl
       · intro m' hm'
         rcases List.mem_cons.1 hm' with rfl | hm'
         · clear ih h1 h0 hk hwf ha
           first | (simp_all [markOK, zA, isAxis, isSeen]; done) | (simp_all [markOK, zA, isAxis, isSeen]; omega)
         · exact ha m' hm')

theorem L15_10 {F : Exit → St → Option D} (p : Paper) (k : List Kt) (x : D) (hwf : p.wf) (hk : ∀ st, get st.tmps 2 = I 30 → zO cfg (lim cfg) 15 F k .ret st = some (I 30)) : ∀ (rest : List Join) (i : Nat), p.joins.drop i = rest → i ≤ p.joins.length →
    ((∀ m ∈ rest, joinOK p m = true) → zO cfg (lim cfg) 15 F k (.exit 2) ⟨113, [(68, B false), (1, .lref 0 0 3 0), (65, .sl p.nj (p.joins.map zj) (zs p.nj 7) none), (66, I p.joins.length), (67, I p.joins.length)], [(0, ⟨[zh p], 3, false⟩)], 1, 0⟩ = some x) →
    ((∃ m ∈ rest, joinOK p m = false) → x = I 30) →
    EvL cfg (lim cfg) 15 F lp15_10 k ⟨113, [(1, .lref 0 0 3 0), (65, .sl p.nj (p.joins.map zj) (zs p.nj 7) none), (66, I p.joins.length), (67, I i)], [(0, ⟨[zh p], 3, false⟩)], 1, 0⟩ = some x := by
  intro rest
  induction rest with
  | nil =>
    intro i hd hi h1 h0
    have hi' : i = p.joins.length := by
      have := List.drop_eq_nil_iff.1 hd
      omega
    subst hi'
    refine zv ?_
    dsimp only [lp15_10, zB, zo, Tryd.f15]
    simp only [bW, if_true, Nat.reduceEqDiff, if_false]
    repeat' first | (intro hb; first | cases hb | skip) | ((first | apply z6 | apply zc); (· rfl); (· simp (disch := assumption) only [go_sem, Nat.reduceEqDiff, Nat.reduceAdd, zw, zd, Nat.reduceLeDiff, Nat.reduceLT, Nat.reduceMul, List.length_append, Int.lt_irrefl]; rfl); (· simp only [go_sem, Nat.reduceLT, Nat.reduceEqDiff]; rfl); (· rfl); first | (apply zb; (· simp only [go_sem, Nat.reduceLT]; rfl); (· simp only [go_sem, Nat.reduceLT]; rfl)) | (apply zf; (· simp only [go_sem, Nat.reduceLT]; rfl))) | ((first | apply z9 | apply za); (· rfl); (· simp only [go_sem, Nat.reduceLT]; rfl)) | (apply z8; (· simp only [go_sem, Nat.reduceEqDiff])) | (apply z5; (· simp only [go_sem, Nat.reduceEqDiff])) | (apply ze; (· kernel_rfl); (· kernel_rfl)) | (simp only [bW, if_true, Nat.reduceEqDiff, if_false])
    exact h1 (fun m hm => by cases hm)
  | cons m rest ih =>
    intro i hd hi h1 h0
    have hlt : i < p.joins.length := by
      rcases Nat.lt_or_ge i p.joins.length with h | h
      · exact h
      · rw [List.drop_eq_nil_of_le h] at hd; cases hd
    have hm : p.joins[i]? = some m := by rw [← List.head?_drop, hd]; rfl
    have hx : (p.joins.map zj)[i]? = some (.agg [I m.a, I m.b, I m.axis, I m.seenA, I m.errA, I m.seenB, I m.errB]) := by rw [List.getElem?_map, hm]; rfl
    have hnm : p.nj = false := by
      cases h : p.nj with
      | false => rfl
      | true => rw [hwf.2.1 h] at hlt; cases hlt
    have hlt' : (i : Int) < (p.joins.length : Int) := by omega
    have hlen := hwf.2.2.2
    have hwr : IntKind.i64.wrap ((i : Int) + 1) = ((i + 1 : Nat) : Int) := by rw [wrap_i64 (by omega) (by omega)]; omega
    refine zv ?_
    dsimp only [lp15_10, zB, zo, Tryd.f15]
    simp only [bW, if_true, Nat.reduceEqDiff, if_false]
    repeat' first | (intro hb; first | cases hb | skip) | ((first | apply z6 | apply zc); (· rfl); (· simp (disch := assumption) only [go_sem, Nat.reduceEqDiff, Nat.reduceAdd, zw, zd, Nat.reduceLeDiff, Nat.reduceLT, Nat.reduceMul, List.length_append, t63, t64, t65, hx, hnm, hlt', hwr]; rfl); (· simp only [go_sem, Nat.reduceLT, Nat.reduceEqDiff]; rfl); (· rfl); first | (apply zb; (· simp only [go_sem, Nat.reduceLT]; rfl); (· simp only [go_sem, Nat.reduceLT]; rfl)) | (apply zf; (· simp only [go_sem, Nat.reduceLT]; rfl))) | ((first | apply z9 | apply za); (· rfl); (· simp only [go_sem, Nat.reduceLT]; rfl)) | (apply z8; (· simp only [go_sem, Nat.reduceEqDiff])) | (apply z5; (· simp only [go_sem, Nat.reduceEqDiff])) | (apply ze; (· kernel_rfl); (· kernel_rfl)) | (simp only [bW, if_true, Nat.reduceEqDiff, if_false])
    all_goals first
    | (have hx0 : x = I 30 := h0 ⟨m, List.mem_cons_self, by
         clear ih h1 h0 hk hwf
         first | (simp_all [joinOK, zA, isAxis, isSeen]; done) | (simp_all [joinOK, zA, isAxis, isSeen]; intros; omega)⟩
       subst hx0
       exact hk _ rfl)
    | (refine zM lk15_10 (by kernel_rfl) (ih (i + 1) ?_ hlt (fun ha => h1 ?_) (fun ⟨m', hm', hb'⟩ => h0 ⟨m', List.mem_cons_of_mem _ hm', hb'⟩))
       · rw [← List.drop_drop, hd]; rfl
       · intro m' hm'
         rcases List.mem_cons.1 hm' with rfl | hm'
         · clear ih h1 h0 hk hwf ha
           first | (simp_all [joinOK, zA, isAxis, isSeen]; done) | (simp_all [joinOK, zA, isAxis, isSeen]; omega)
         · exact ha m' hm')


theorem len_if {α : Type} {b : Bool} {l : List α} {f : α → D} (h : b = true → l = []) : (if b = true then (0 : Int) else ((l.map f).length : Int)) = (l.length : Int) := by
  split
  · rename_i hb; rw [h hb]; rfl
  · simp
def zt (p : Paper) : Bool := decide (1 ≤ p.sheets) && decide (p.sheets ≤ 4) && decide (p.marks.length ≤ 24) && decide (p.joins.length ≤ 24) && p.marks.all (markOK p) && p.joins.all (joinOK p)
def check (p : Paper) : Int := if zt p then 0 else 30

theorem t15 (p : Paper) (hwf : p.wf) : (lim cfg).pure 15 [zh p] = some (I (check p)) := by
  have hlm := len_if (f := zm) hwf.1
  have hlj := len_if (f := zj) hwf.2.1
  refine zp (zk 15) cfn15 rfl (n := 113) rfl ?_
  generalize hF : finP cfg Tryd.f15 = F
  have hret : ∀ (v : Int) st, get st.tmps 2 = I v → F .ret st = some (I v) := by
    intro v st h
    subst hF
    simp only [go_sem, Nat.reduceEqDiff, zw, Nat.reduceAdd, Nat.reduceLeDiff, List.length_map, Tryd.f15, h]
  simp only [bW, if_true, Nat.reduceEqDiff, if_false, zi]
  repeat' first | (intro hb; first | cases hb | skip) | ((first | apply z6 | apply zc); (· rfl); (· simp (disch := assumption) only [go_sem, Nat.reduceEqDiff, Nat.reduceAdd, zw, zd, Nat.reduceLeDiff, Nat.reduceLT, Nat.reduceMul, List.length_append, hlm, hlj]; rfl); (· simp only [go_sem, Nat.reduceLT, Nat.reduceEqDiff]; rfl); (· rfl); first | (apply zb; (· simp only [go_sem, Nat.reduceLT]; rfl); (· simp only [go_sem, Nat.reduceLT]; rfl)) | (apply zf; (· simp only [go_sem, Nat.reduceLT]; rfl))) | ((first | apply z9 | apply za); (· rfl); (· simp only [go_sem, Nat.reduceLT]; rfl)) | (apply z8; (· simp only [go_sem, Nat.reduceEqDiff])) | (apply z5; (· simp only [go_sem, Nat.reduceEqDiff])) | (apply ze; (· kernel_rfl); (· kernel_rfl)) | (simp only [bW, if_true, Nat.reduceEqDiff, if_false])
  all_goals try exact (by
    have hx0 : check p = 30 := by
      clear hret hF
      first | (simp_all [check, zt]; done) | (simp_all [check, zt]; intros; omega)
    rw [hx0]; exact hret 30 _ rfl)
  refine w_loop (st1 := ⟨113, [(1, .lref 0 0 3 0), (28, .sl p.nm (p.marks.map zm) (zs p.nm 5) none), (29, I p.marks.length), (30, I (0 : Nat))], [(0, ⟨[zh p], 3, false⟩)], 1, 0⟩) lk15_4 (by kernel_rfl)
    (L15_4 p _ _ hwf (fun st h => by simp only [bW, if_true, Nat.reduceEqDiff, if_false]; exact hret 30 st h) p.marks 0 rfl (Nat.zero_le _) (fun hm => ?_) (fun ⟨m, h1, h2⟩ => ?_))
  · simp only [bW, if_true, Nat.reduceEqDiff, if_false]
    repeat' first | (intro hb; first | cases hb | skip) | ((first | apply z6 | apply zc); (· rfl); (· simp (disch := assumption) only [go_sem, Nat.reduceEqDiff, Nat.reduceAdd, zw, zd, Nat.reduceLeDiff, Nat.reduceLT, Nat.reduceMul, List.length_append, hlm, hlj]; rfl); (· simp only [go_sem, Nat.reduceLT, Nat.reduceEqDiff]; rfl); (· rfl); first | (apply zb; (· simp only [go_sem, Nat.reduceLT]; rfl); (· simp only [go_sem, Nat.reduceLT]; rfl)) | (apply zf; (· simp only [go_sem, Nat.reduceLT]; rfl))) | ((first | apply z9 | apply za); (· rfl); (· simp only [go_sem, Nat.reduceLT]; rfl)) | (apply z8; (· simp only [go_sem, Nat.reduceEqDiff])) | (apply z5; (· simp only [go_sem, Nat.reduceEqDiff])) | (apply ze; (· kernel_rfl); (· kernel_rfl)) | (simp only [bW, if_true, Nat.reduceEqDiff, if_false])
    refine w_loop (st1 := ⟨113, [(1, .lref 0 0 3 0), (65, .sl p.nj (p.joins.map zj) (zs p.nj 7) none), (66, I p.joins.length), (67, I (0 : Nat))], [(0, ⟨[zh p], 3, false⟩)], 1, 0⟩) lk15_10 (by kernel_rfl)
      (L15_10 p _ _ hwf (fun st h => by simp only [bW, if_true, Nat.reduceEqDiff, if_false]; exact hret 30 st h) p.joins 0 rfl (Nat.zero_le _) (fun hj => ?_) (fun ⟨m, h1, h2⟩ => ?_))
    · simp only [bW, if_true, Nat.reduceEqDiff, if_false]
      repeat' first | (intro hb; first | cases hb | skip) | ((first | apply z6 | apply zc); (· rfl); (· simp (disch := assumption) only [go_sem, Nat.reduceEqDiff, Nat.reduceAdd, zw, zd, Nat.reduceLeDiff, Nat.reduceLT, Nat.reduceMul, List.length_append, hlm, hlj]; rfl); (· simp only [go_sem, Nat.reduceLT, Nat.reduceEqDiff]; rfl); (· rfl); first | (apply zb; (· simp only [go_sem, Nat.reduceLT]; rfl); (· simp only [go_sem, Nat.reduceLT]; rfl)) | (apply zf; (· simp only [go_sem, Nat.reduceLT]; rfl))) | ((first | apply z9 | apply za); (· rfl); (· simp only [go_sem, Nat.reduceLT]; rfl)) | (apply z8; (· simp only [go_sem, Nat.reduceEqDiff])) | (apply z5; (· simp only [go_sem, Nat.reduceEqDiff])) | (apply ze; (· kernel_rfl); (· kernel_rfl)) | (simp only [bW, if_true, Nat.reduceEqDiff, if_false])
      have hx0 : check p = 0 := by
        clear hret hF
        first | (simp_all [check, zt]; done) | (simp_all [check, zt]; intros; omega)
      rw [hx0]; exact hret 0 _ rfl
    · have hx0 : check p = 30 := by
        have : p.joins.all (joinOK p) = false := by rw [List.all_eq_false]; exact ⟨m, h1, by simp [h2]⟩
        simp [check, zt, this]
      rw [hx0]
  · have hx0 : check p = 30 := by
      have : p.marks.all (markOK p) = false := by rw [List.all_eq_false]; exact ⟨m, h1, by simp [h2]⟩
      simp [check, zt, this]
    rw [hx0]

end Go.VS
namespace Go.VS
open Go
def w64 (n : Int) : Int := IntKind.u64.wrap n
def m32 (n : Int) : Int := IntKind.u64.wrap ((BitVec.ofInt 64 n &&& BitVec.ofInt 64 4294967295).toNat : Int)
@[reducible] def U (n : Int) : D := .val (.int .u64 n)
theorem shr32 {a : Int} : shiftOp .shr .u64 a 32 = some (U (a.fdiv 4294967296)) := by
  simp only [shiftOp]
  rfl
theorem and32 {a : Int} : zd .and .u64 a 4294967295 = some (U (m32 a)) := rfl
theorem add64 {a b : Int} : zd .add .u64 a b = some (U (w64 (a + b))) := rfl
theorem mul64 {a b : Int} : zd .mul .u64 a b = some (U (w64 (a * b))) := rfl
theorem fdiv32 (a : Int) : a.fdiv 4294967296 = a / 4294967296 := Int.fdiv_eq_ediv_of_nonneg a (by decide)
theorem wrap_u64' (n : Int) : IntKind.u64.wrap n = n % 18446744073709551616 := by
  simp [IntKind.wrap, IntKind.signed, IntKind.bits]
theorem m32_eq {n : Int} (h0 : 0 ≤ n) (h : n < 18446744073709551616) : IntKind.u64.wrap ((BitVec.ofInt 64 n &&& BitVec.ofInt 64 4294967295).toNat : Int) = n % 4294967296 := by
  rw [wrap_u64']
  obtain ⟨k, rfl⟩ := Int.eq_ofNat_of_zero_le h0
  have e1 : (BitVec.ofInt 64 (k : Int)).toNat = k := by
    rw [BitVec.toNat_ofInt]; simp; omega
  have e2 : (BitVec.ofInt 64 4294967295).toNat = 2 ^ 32 - 1 := by decide
  rw [BitVec.toNat_and, e1, e2, Nat.and_two_pow_sub_one_eq_mod]
  omega
theorem w64_eq (n : Int) : w64 n = n % 18446744073709551616 := wrap_u64' n
theorem m32_w64 (n : Int) : m32 (w64 n) = n % 18446744073709551616 % 4294967296 := by
  rw [w64_eq]
  exact m32_eq (by omega) (by omega)
theorem mulHi' {x y : Int} (hx0 : 0 ≤ x) (hx : x < 18446744073709551616) (hy0 : 0 ≤ y) (hy : y < 18446744073709551616) :
    (((x / 4294967296 * (y / 4294967296)) % 18446744073709551616 + (((x / 4294967296 * (y % 4294967296)) % 18446744073709551616 + (x % 4294967296 * (y % 4294967296)) % 18446744073709551616 / 4294967296) % 18446744073709551616) / 4294967296) % 18446744073709551616 +
      (((((x / 4294967296 * (y % 4294967296)) % 18446744073709551616 + (x % 4294967296 * (y % 4294967296)) % 18446744073709551616 / 4294967296) % 18446744073709551616) % 4294967296 + (x % 4294967296 * (y / 4294967296)) % 18446744073709551616) % 18446744073709551616) / 4294967296) % 18446744073709551616 = x * y / 18446744073709551616 := by
  have a1 : 0 ≤ x / 4294967296 ∧ x / 4294967296 ≤ 4294967295 := by omega
  have a0 : 0 ≤ x % 4294967296 ∧ x % 4294967296 ≤ 4294967295 := by omega
  have b1 : 0 ≤ y / 4294967296 ∧ y / 4294967296 ≤ 4294967295 := by omega
  have b0 : 0 ≤ y % 4294967296 ∧ y % 4294967296 ≤ 4294967295 := by omega
  have ex : x = x / 4294967296 * 4294967296 + x % 4294967296 := by omega
  have ey : y = y / 4294967296 * 4294967296 + y % 4294967296 := by omega
  generalize x / 4294967296 = x1 at *
  generalize x % 4294967296 = x0 at *
  generalize y / 4294967296 = y1 at *
  generalize y % 4294967296 = y0 at *
  have bd : ∀ {p q : Int}, 0 ≤ p ∧ p ≤ 4294967295 → 0 ≤ q ∧ q ≤ 4294967295 → 0 ≤ p * q ∧ p * q ≤ 18446744065119617025 := by
    intro p q ⟨p0, p1⟩ ⟨q0, q1⟩
    refine ⟨Int.mul_nonneg p0 q0, ?_⟩
    have := Int.mul_le_mul p1 q1 q0 (by omega)
    omega
  have c11 := bd a1 b1
  have c10 := bd a1 b0
  have c01 := bd a0 b1
  have c00 := bd a0 b0
  have hxy : x * y = x1 * y1 * 18446744073709551616 + (x1 * y0 + x0 * y1) * 4294967296 + x0 * y0 := by
    rw [ex, ey]; grind
  rw [hxy]
  generalize x1 * y1 = p11 at *
  generalize x1 * y0 = p10 at *
  generalize x0 * y1 = p01 at *
  generalize x0 * y0 = p00 at *
  omega
end Go.VS
namespace Go.VS
open Go Go.Proofs
set_option maxHeartbeats 0
set_option linter.unusedSimpArgs false

theorem t106 (x y : Int) (hx0 : 0 ≤ x) (hx : x < 18446744073709551616) (hy0 : 0 ≤ y) (hy : y < 18446744073709551616) : (lim cfg).pure 106 [U x, U y] = some (.tup [U (x * y / 18446744073709551616), U (x * y % 18446744073709551616)]) := by
  refine zp (zk 106) cfn106 rfl (n := 51) rfl ?_
  simp only [bW, if_true, Nat.reduceEqDiff, if_false, zi]
  repeat' first | (intro hb; first | cases hb | skip) | ((first | apply z6 | apply zc); (· rfl); (· simp (disch := assumption) only [go_sem, Nat.reduceEqDiff, Nat.reduceAdd, zw, Nat.reduceLeDiff, Nat.reduceLT, Nat.reduceMul, List.length_append, shr32, and32, add64, mul64]; rfl); (· simp only [go_sem, Nat.reduceLT, Nat.reduceEqDiff]; rfl); (· rfl); first | (apply zb; (· simp only [go_sem, Nat.reduceLT]; rfl); (· simp only [go_sem, Nat.reduceLT]; rfl)) | (apply zf; (· simp only [go_sem, Nat.reduceLT]; rfl))) | ((first | apply z9 | apply za); (· rfl); (· simp only [go_sem, Nat.reduceLT]; rfl)) | (apply z8; (· simp only [go_sem, Nat.reduceEqDiff])) | (apply z5; (· simp only [go_sem, Nat.reduceEqDiff])) | (apply ze; (· kernel_rfl); (· kernel_rfl)) | (simp only [bW, if_true, Nat.reduceEqDiff, if_false])
  all_goals simp only [go_sem, Nat.reduceEqDiff, zw, Nat.reduceAdd, Nat.reduceLeDiff, List.length_map, Tryd.f106]
  rw [m32_w64, show m32 x = x % 4294967296 from m32_eq hx0 hx, show m32 y = y % 4294967296 from m32_eq hy0 hy]
  simp only [w64_eq, fdiv32]
  rw [mulHi' hx0 hx hy0 hy]


def hi64 (a b : Int) : Int := a * b / 18446744073709551616
def lo64 (a b : Int) : Int := a * b % 18446744073709551616

theorem t69 (a b : Int) (ha0 : 0 ≤ a) (ha : a < 9223372036854775808) (hb0 : 0 ≤ b) (hb : b < 9223372036854775808) : (lim cfg).pure 69 [I a, I b] = some (.agg [U (hi64 a b), U (lo64 a b)]) := by
  have hwa : IntKind.u64.wrap a = a := by rw [wrap_u64']; omega
  have hwb : IntKind.u64.wrap b = b := by rw [wrap_u64']; omega
  have h106 := t106 a b ha0 (by omega) hb0 (by omega)
  refine zp (zk 69) cfn69 rfl (n := 18) rfl ?_
  simp only [bW, if_true, Nat.reduceEqDiff, if_false, zi]
  repeat' first | (intro hb; first | cases hb | skip) | ((first | apply z6 | apply zc); (· rfl); (· simp (disch := assumption) only [go_sem, Nat.reduceEqDiff, Nat.reduceAdd, zw, zd, Nat.reduceLeDiff, Nat.reduceLT, Nat.reduceMul, List.length_append, hwa, hwb, h106]; rfl); (· simp only [go_sem, Nat.reduceLT, Nat.reduceEqDiff]; rfl); (· rfl); first | (apply zb; (· simp only [go_sem, Nat.reduceLT]; rfl); (· simp only [go_sem, Nat.reduceLT]; rfl)) | (apply zf; (· simp only [go_sem, Nat.reduceLT]; rfl))) | ((first | apply z9 | apply za); (· rfl); (· simp only [go_sem, Nat.reduceLT]; rfl)) | (apply z8; (· simp only [go_sem, Nat.reduceEqDiff])) | (apply z5; (· simp only [go_sem, Nat.reduceEqDiff])) | (apply ze; (· kernel_rfl); (· kernel_rfl)) | (simp only [bW, if_true, Nat.reduceEqDiff, if_false])
  all_goals simp only [go_sem, Nat.reduceEqDiff, zw, Nat.reduceAdd, Nat.reduceLeDiff, List.length_map, Tryd.f69]
  all_goals rfl


def cmpP (h l h' l' : Int) : Int := if h = h' ∧ l = l' then 0 else if h < h' ∨ (h = h' ∧ l < l') then -1 else 1
def cmpI (a b : Int) : Int := if a = b then 0 else if a < b then -1 else 1
theorem cmp_of {a b c d : Int} (hab : 0 ≤ a * b) (hcd : 0 ≤ c * d) : cmpP (hi64 a b) (lo64 a b) (hi64 c d) (lo64 c d) = cmpI (a * b) (c * d) := by
  unfold cmpP cmpI hi64 lo64
  generalize a * b = p at *
  generalize c * d = q at *
  by_cases h1 : p = q
  · subst h1; simp
  · have hne : ¬ (p / 18446744073709551616 = q / 18446744073709551616 ∧ p % 18446744073709551616 = q % 18446744073709551616) := by omega
    rw [if_neg hne, if_neg h1]
    by_cases h2 : p < q
    · rw [if_pos h2, if_pos (by omega)]
    · rw [if_neg h2, if_neg (by omega)]

theorem t70 (h l h' l' : Int) : (lim cfg).pure 70 [.agg [U h, U l], .agg [U h', U l']] = some (I (cmpP h l h' l')) := by
  refine zp (zk 70) cfn70 rfl (n := 27) rfl ?_
  simp only [bW, if_true, Nat.reduceEqDiff, if_false, zi]
  repeat' first | (intro hb; first | cases hb | skip) | ((first | apply z6 | apply zc); (· rfl); (· simp (disch := assumption) only [go_sem, Nat.reduceEqDiff, Nat.reduceAdd, zw, zd, Nat.reduceLeDiff, Nat.reduceLT, Nat.reduceMul, List.length_append, show cfg.eqok 105 = true from rfl]; rfl); (· simp only [go_sem, Nat.reduceLT, Nat.reduceEqDiff]; rfl); (· rfl); first | (apply zb; (· simp only [go_sem, Nat.reduceLT]; rfl); (· simp only [go_sem, Nat.reduceLT]; rfl)) | (apply zf; (· simp only [go_sem, Nat.reduceLT]; rfl))) | ((first | apply z9 | apply za); (· rfl); (· simp only [go_sem, Nat.reduceLT]; rfl)) | (apply z8; (· simp only [go_sem, Nat.reduceEqDiff])) | (apply z5; (· simp only [go_sem, Nat.reduceEqDiff])) | (apply ze; (· kernel_rfl); (· kernel_rfl)) | (simp only [bW, if_true, Nat.reduceEqDiff, if_false])
  all_goals simp only [go_sem, Nat.reduceEqDiff, zw, Nat.reduceAdd, Nat.reduceLeDiff, List.length_map, Tryd.f70]
  all_goals trace_state
  all_goals (simp_all [cmpP]; try (intros; omega))


def P63 (x : Int) : Prop := 0 ≤ x ∧ x < 9223372036854775808

theorem t75 (n d n' d' : Int) (hn : P63 n) (hd : P63 d) (hn' : P63 n') (hd' : P63 d') : (lim cfg).pure 75 [.agg [I n, I d], .agg [I n', I d']] = some (I (cmpI (n * d') (n' * d))) := by
  have h1 := t69 n d' hn.1 hn.2 hd'.1 hd'.2
  have h2 := t69 n' d hn'.1 hn'.2 hd.1 hd.2
  refine zp (zk 75) cfn75 rfl (n := 16) rfl ?_
  simp only [bW, if_true, Nat.reduceEqDiff, if_false, zi]
  repeat' first | (intro hb; first | cases hb | skip) | ((first | apply z6 | apply zc); (· rfl); (· simp (disch := assumption) only [go_sem, Nat.reduceEqDiff, Nat.reduceAdd, zw, zd, Nat.reduceLeDiff, Nat.reduceLT, Nat.reduceMul, List.length_append, h1, h2, t70]; rfl); (· simp only [go_sem, Nat.reduceLT, Nat.reduceEqDiff]; rfl); (· rfl); first | (apply zb; (· simp only [go_sem, Nat.reduceLT]; rfl); (· simp only [go_sem, Nat.reduceLT]; rfl)) | (apply zf; (· simp only [go_sem, Nat.reduceLT]; rfl))) | ((first | apply z9 | apply za); (· rfl); (· simp only [go_sem, Nat.reduceLT]; rfl)) | (apply z8; (· simp only [go_sem, Nat.reduceEqDiff])) | (apply z5; (· simp only [go_sem, Nat.reduceEqDiff])) | (apply ze; (· kernel_rfl); (· kernel_rfl)) | (simp only [bW, if_true, Nat.reduceEqDiff, if_false])
  all_goals simp only [go_sem, Nat.reduceEqDiff, zw, Nat.reduceAdd, Nat.reduceLeDiff, List.length_map, Tryd.f75]
  all_goals rw [cmp_of (Int.mul_nonneg hn.1 hd'.1) (Int.mul_nonneg hn'.1 hd.1)]

theorem t97 (n d : Int) : (lim cfg).pure 97 [.agg [I n, I d]] = some (.agg [I d, I n]) := by
  refine zp (zk 97) cfn97 rfl (n := 8) rfl ?_
  simp only [bW, if_true, Nat.reduceEqDiff, if_false, zi]
  repeat' first | (intro hb; first | cases hb | skip) | ((first | apply z6 | apply zc); (· rfl); (· simp (disch := assumption) only [go_sem, Nat.reduceEqDiff, Nat.reduceAdd, zw, zd, Nat.reduceLeDiff, Nat.reduceLT, Nat.reduceMul, List.length_append]; rfl); (· simp only [go_sem, Nat.reduceLT, Nat.reduceEqDiff]; rfl); (· rfl); first | (apply zb; (· simp only [go_sem, Nat.reduceLT]; rfl); (· simp only [go_sem, Nat.reduceLT]; rfl)) | (apply zf; (· simp only [go_sem, Nat.reduceLT]; rfl))) | ((first | apply z9 | apply za); (· rfl); (· simp only [go_sem, Nat.reduceLT]; rfl)) | (apply z8; (· simp only [go_sem, Nat.reduceEqDiff])) | (apply z5; (· simp only [go_sem, Nat.reduceEqDiff])) | (apply ze; (· kernel_rfl); (· kernel_rfl)) | (simp only [bW, if_true, Nat.reduceEqDiff, if_false])
  all_goals simp only [go_sem, Nat.reduceEqDiff, zw, Nat.reduceAdd, Nat.reduceLeDiff, List.length_map, Tryd.f97]
  all_goals first | rfl | (simp_all []; done) | (simp_all []; intros; omega)

end Go.VS
namespace Go.VS
open Go Go.Proofs
set_option maxHeartbeats 0
set_option linter.unusedSimpArgs false

noncomputable def lp117_2 : Code := zB [1, 1, 0, 0, 0] (zo Tryd.f117)
theorem lk117_2 : cfg.keep 117 (zD lp117_2) = [1, 2, 3, 4] := by kernel_rfl

theorem L117_2 {F : Exit → St → Option D} (n d : Int) (k : List Kt) (x : D) : ∀ (m : Nat) (a b : Nat), b ≤ m →
    zO cfg (lim cfg) 117 F k (.exit 0) ⟨24, [(10, B false), (9, I (0 : Int)), (1, .lref 0 0 2 0), (2, .lref 1 0 2 0), (3, I ((a.gcd b : Nat) : Int)), (4, I (0 : Int))], [(0, ⟨[.agg [I n, I d]], 2, false⟩), (1, ⟨[.agg [I 0, I 0]], 2, false⟩)], 2, 0⟩ = some x →
    EvL cfg (lim cfg) 117 F lp117_2 k ⟨24, [(1, .lref 0 0 2 0), (2, .lref 1 0 2 0), (3, I a), (4, I b)], [(0, ⟨[.agg [I n, I d]], 2, false⟩), (1, ⟨[.agg [I 0, I 0]], 2, false⟩)], 2, 0⟩ = some x := by
  intro m
  induction m with
  | zero =>
    intro a b hb h
    obtain rfl : b = 0 := by omega
    refine zv ?_
    dsimp only [lp117_2, zB, zo, Tryd.f117]
    simp only [bW, if_true, Nat.reduceEqDiff, if_false]
    repeat' first | (intro hb; first | cases hb | skip) | ((first | apply z6 | apply zc); (· rfl); (· simp (disch := assumption) only [go_sem, Nat.reduceEqDiff, Nat.reduceAdd, zw, zd, Nat.reduceLeDiff, Nat.reduceLT, Nat.reduceMul, List.length_append, bne_self_eq_false]; rfl); (· simp only [go_sem, Nat.reduceLT, Nat.reduceEqDiff]; rfl); (· rfl); first | (apply zb; (· simp only [go_sem, Nat.reduceLT]; rfl); (· simp only [go_sem, Nat.reduceLT]; rfl)) | (apply zf; (· simp only [go_sem, Nat.reduceLT]; rfl))) | ((first | apply z9 | apply za); (· rfl); (· simp only [go_sem, Nat.reduceLT]; rfl)) | (apply z8; (· simp only [go_sem, Nat.reduceEqDiff])) | (apply z5; (· simp only [go_sem, Nat.reduceEqDiff])) | (apply ze; (· kernel_rfl); (· kernel_rfl)) | (simp only [bW, if_true, Nat.reduceEqDiff, if_false])
    rw [Nat.gcd_zero_right] at h
    exact h
  | succ m ih =>
    intro a b hb h
    rcases Nat.eq_zero_or_pos b with h0 | h0
    · subst h0
      exact ih a 0 (Nat.zero_le _) h
    · have hbne : ((b : Int) != 0) = true := by simp; omega
      have hbne' : ((b : Int) = 0) = False := by simp; omega
      refine zv ?_
      dsimp only [lp117_2, zB, zo, Tryd.f117]
      simp only [bW, if_true, Nat.reduceEqDiff, if_false]
      repeat' first | (intro hb; first | cases hb | skip) | ((first | apply z6 | apply zc); (· rfl); (· simp (disch := assumption) only [go_sem, Nat.reduceEqDiff, Nat.reduceAdd, zw, zd, Nat.reduceLeDiff, Nat.reduceLT, Nat.reduceMul, List.length_append, hbne, hbne']; rfl); (· simp only [go_sem, Nat.reduceLT, Nat.reduceEqDiff]; rfl); (· rfl); first | (apply zb; (· simp only [go_sem, Nat.reduceLT]; rfl); (· simp only [go_sem, Nat.reduceLT]; rfl)) | (apply zf; (· simp only [go_sem, Nat.reduceLT]; rfl))) | ((first | apply z9 | apply za); (· rfl); (· simp only [go_sem, Nat.reduceLT]; rfl)) | (apply z8; (· simp only [go_sem, Nat.reduceEqDiff])) | (apply z5; (· simp only [go_sem, Nat.reduceEqDiff])) | (apply ze; (· kernel_rfl); (· kernel_rfl)) | (simp only [bW, if_true, Nat.reduceEqDiff, if_false])
      have hm : (a : Int).tmod (b : Int) = ((a % b : Nat) : Int) := rfl
      refine zM lk117_2 (by kernel_rfl) (st1 := ⟨24, [(1, .lref 0 0 2 0), (2, .lref 1 0 2 0), (3, I b), (4, I ((a : Int).tmod b))], [(0, ⟨[.agg [I n, I d]], 2, false⟩), (1, ⟨[.agg [I 0, I 0]], 2, false⟩)], 2, 0⟩) ?_
      rw [hm]
      refine ih b (a % b) (by have := Nat.mod_lt a h0; omega) ?_
      have e : b.gcd (a % b) = a.gcd b := by rw [Nat.gcd_comm b (a % b), ← Nat.gcd_rec, Nat.gcd_comm]
      rw [e]; exact h


def gcdI (n d : Int) : Int := ((n.toNat.gcd d.toNat : Nat) : Int)
theorem gcdI_pos {n d : Int} (hn : 1 ≤ n) : 1 ≤ gcdI n d := by
  unfold gcdI
  have := Nat.gcd_pos_of_pos_left d.toNat (show 0 < n.toNat by omega)
  omega
theorem quo_wrap {n g : Int} (hn : 0 ≤ n) (hn' : n < 9223372036854775808) (hg : 1 ≤ g) : IntKind.i64.wrap (n.tdiv g) = n / g := by
  rw [Int.tdiv_eq_ediv_of_nonneg hn]
  have h1 : 0 ≤ n / g := Int.ediv_nonneg hn (by omega)
  have h2 : n / g ≤ n := Int.ediv_le_self g hn
  exact wrap_i64 (by omega) (by omega)

theorem t117 (n d : Int) (hn : 1 ≤ n) (hn' : n < 9223372036854775808) (hd : 1 ≤ d) (hd' : d < 9223372036854775808) : (lim cfg).pure 117 [.agg [I n, I d]] = some (.agg [I (n / gcdI n d), I (d / gcdI n d)]) := by
  obtain ⟨a, rfl⟩ := Int.eq_ofNat_of_zero_le (show 0 ≤ n by omega)
  obtain ⟨b, rfl⟩ := Int.eq_ofNat_of_zero_le (show 0 ≤ d by omega)
  have hg := gcdI_pos (d := (b : Int)) hn
  have hg0 : (((a.gcd b : Nat) : Int) = 0) = False := by simp [gcdI] at hg; simp; omega
  have hq1 : IntKind.i64.wrap ((a : Int).tdiv ((a.gcd b : Nat) : Int)) = (a : Int) / gcdI a b := quo_wrap (by omega) hn' hg
  have hq2 : IntKind.i64.wrap ((b : Int).tdiv ((a.gcd b : Nat) : Int)) = (b : Int) / gcdI a b := quo_wrap (by omega) hd' hg
  refine zp (zk 117) cfn117 rfl (n := 24) rfl ?_
  generalize hF : finP cfg Tryd.f117 = F
  simp only [bW, if_true, Nat.reduceEqDiff, if_false, zi]
  repeat' first | (intro hb; first | cases hb | skip) | ((first | apply z6 | apply zc); (· rfl); (· simp (disch := assumption) only [go_sem, Nat.reduceEqDiff, Nat.reduceAdd, zw, zd, Nat.reduceLeDiff, Nat.reduceLT, Nat.reduceMul, List.length_append]; rfl); (· simp only [go_sem, Nat.reduceLT, Nat.reduceEqDiff]; rfl); (· rfl); first | (apply zb; (· simp only [go_sem, Nat.reduceLT]; rfl); (· simp only [go_sem, Nat.reduceLT]; rfl)) | (apply zf; (· simp only [go_sem, Nat.reduceLT]; rfl))) | ((first | apply z9 | apply za); (· rfl); (· simp only [go_sem, Nat.reduceLT]; rfl)) | (apply z8; (· simp only [go_sem, Nat.reduceEqDiff])) | (apply z5; (· simp only [go_sem, Nat.reduceEqDiff])) | (apply ze; (· kernel_rfl); (· kernel_rfl)) | (simp only [bW, if_true, Nat.reduceEqDiff, if_false])
  refine w_loop (st1 := ⟨24, [(1, .lref 0 0 2 0), (2, .lref 1 0 2 0), (3, I (a : Nat)), (4, I (b : Nat))], [(0, ⟨[.agg [I (a : Int), I (b : Int)]], 2, false⟩), (1, ⟨[.agg [I 0, I 0]], 2, false⟩)], 2, 0⟩) lk117_2 (by kernel_rfl) (L117_2 a b _ _ b a b (Nat.le_refl _) ?_)
  simp only [bW, if_true, Nat.reduceEqDiff, if_false]
  repeat' first | (intro hb; first | cases hb | skip) | ((first | apply z6 | apply zc); (· rfl); (· simp (disch := assumption) only [go_sem, Nat.reduceEqDiff, Nat.reduceAdd, zw, zd, Nat.reduceLeDiff, Nat.reduceLT, Nat.reduceMul, List.length_append, hg0, hq1, hq2]; rfl); (· simp only [go_sem, Nat.reduceLT, Nat.reduceEqDiff]; rfl); (· rfl); first | (apply zb; (· simp only [go_sem, Nat.reduceLT]; rfl); (· simp only [go_sem, Nat.reduceLT]; rfl)) | (apply zf; (· simp only [go_sem, Nat.reduceLT]; rfl))) | ((first | apply z9 | apply za); (· rfl); (· simp only [go_sem, Nat.reduceLT]; rfl)) | (apply z8; (· simp only [go_sem, Nat.reduceEqDiff])) | (apply z5; (· simp only [go_sem, Nat.reduceEqDiff])) | (apply ze; (· kernel_rfl); (· kernel_rfl)) | (simp only [bW, if_true, Nat.reduceEqDiff, if_false])
  subst hF
  all_goals simp only [go_sem, Nat.reduceEqDiff, zw, Nat.reduceAdd, Nat.reduceLeDiff, List.length_map, Tryd.f117]
  all_goals trace_state


end Go.VS
namespace Go.VS
open Go Go.Proofs
set_option maxHeartbeats 0
set_option linter.unusedSimpArgs false
structure Ratio where
  n : Int
  d : Int
structure Reason where
  join : Bool
  at_ : Int
  back : Bool
structure Edge where
  src : Int
  dst : Int
  q : Ratio
  why : Reason
def encE (e : Edge) : D := .agg [I e.src, I e.dst, I e.q.n, I e.q.d, B e.why.join, I e.why.at_, B e.why.back]
def sheetE (i : Nat) : List Edge := [⟨1 + i, 0, ⟨2, 1⟩, ⟨false, -1 - i, false⟩⟩, ⟨0, 1 + i, ⟨2, 1⟩, ⟨false, -1 - i, true⟩⟩]
def outD (k : Nat) (es : List Edge) : D := match es with | [] => .sl true [] 0 none | _ :: r => .lsl k 0 (r.length + 1) 7 none
def outO (k : Nat) (es : List Edge) : List (Nat × Ob) := match es with | [] => [] | e :: r => [(k, ⟨(e :: r).map encE, 7, false⟩)]
def outN (k : Nat) (es : List Edge) : Nat := match es with | [] => k | _ => k + 1
theorem ren_encE (ρ : Nat → Option Nat) (r : List Edge) : List.map (renD ρ 16) (List.map encE r) = List.map encE r := by
  rw [List.map_map]
  refine List.map_congr_left fun e _ => ?_
  rfl
theorem ids_encE (r : List Edge) : idsL (idsD 16) (List.map encE r) = some [] := by
  induction r with
  | nil => rfl
  | cons e r ih => simp only [List.map_cons, idsL, ih]; rfl
theorem ids_encE_app (r : List Edge) (b : List D) : idsL (idsD 16) (List.map encE r ++ b) = idsL (idsD 16) b := by
  induction r with
  | nil => rfl
  | cons e r ih =>
    simp only [List.map_cons, List.cons_append, idsL, ih]
    rw [show idsD 16 (encE e) = some [] from rfl]
    cases idsL (idsD 16) b <;> rfl
theorem ok_encE (r : List Edge) : allOk 7 (List.map encE r) = true := by
  induction r with
  | nil => rfl
  | cons e r ih => simp only [List.map_cons, allOk, ih]; rfl
theorem take_map {α β : Type} {f : α → β} (r : List α) : List.take r.length (List.map f r) = List.map f r := by
  rw [List.take_of_length_le]; simp

noncomputable def lp68_2 : Code := zB [1, 0, 1, 0, 0] (zo Tryd.f68)
theorem lk68_2 : cfg.keep 68 (zD lp68_2) = [1, 2, 4, 12, 13] := by kernel_rfl
noncomputable def lp68_8 : Code := zB [1, 1, 0, 1, 0, 0] (zo Tryd.f68)
theorem lk68_8 : cfg.keep 68 (zD lp68_8) = [1, 2, 4, 36, 37, 38] := by kernel_rfl
noncomputable def lp68_14 : Code := zB [1, 1, 1, 0, 1, 0, 0] (zo Tryd.f68)
theorem lk68_14 : cfg.keep 68 (zD lp68_14) = [1, 4, 80, 81, 82] := by kernel_rfl

example : (1 : Nat) + 1 = 2 := by simp only [go_sem, Nat.reduceEqDiff, Nat.reduceAdd, zw, zd, Nat.reduceLeDiff, Nat.reduceLT, Nat.reduceMul, List.length_append, decide_eq_true_eq]
example : (1 : Nat) + 1 = 2 := by simp only [bW, if_true, Nat.reduceEqDiff, if_false, Nat.reduceAdd]
example : (1 : Nat) + 1 = 2 := by simp only [go_sem, Nat.reduceEqDiff, zw, Nat.reduceAdd, Nat.reduceLeDiff, List.length_map]

theorem L68_2 {F : Exit → St → Option D} (p : Paper) (ax : Int) (k : List Kt) (x : D) (hs : p.sheets ≤ 4) : ∀ (m i : Nat) (es : List Edge), (i : Int) + m = p.sheets → es.length + 2 * m ≤ 1000 →
    (∀ es', es' = es ++ (List.range' i m).flatMap sheetE → zO cfg (lim cfg) 68 F k (.exit 0) ⟨136, [(14, B false), (1, I ax), (2, .lref 0 0 3 0), (4, outD 1 (es')), (12, I p.sheets), (13, I (i + m : Nat))], (0, ⟨[zh p], 3, false⟩) :: outO 1 (es'), outN 1 (es'), 0⟩ = some x) →
    EvL cfg (lim cfg) 68 F lp68_2 k ⟨136, [(1, I ax), (2, .lref 0 0 3 0), (4, outD 1 (es)), (12, I p.sheets), (13, I (i : Nat))], (0, ⟨[zh p], 3, false⟩) :: outO 1 (es), outN 1 (es), 0⟩ = some x := by
  intro m
  induction m with
  | zero =>
    intro i es hi he h
    have hi' : (i : Int) = p.sheets := by omega
    refine zv ?_
    dsimp only [lp68_2, zB, zo, Tryd.f68]
    simp only [bW, if_true, Nat.reduceEqDiff, if_false]
    repeat' first | (intro hb; first | cases hb | skip) | ((first | apply z6 | apply zc); (· rfl); (· simp (disch := assumption) only [go_sem, Nat.reduceEqDiff, Nat.reduceAdd, zw, zd, Nat.reduceLeDiff, Nat.reduceLT, Nat.reduceMul, List.length_append, decide_eq_true_eq, hi', Int.lt_irrefl]; rfl); (· simp only [go_sem, Nat.reduceLT, Nat.reduceEqDiff]; rfl); (· rfl); first | (apply zb; (· simp only [go_sem, Nat.reduceLT]; rfl); (· simp only [go_sem, Nat.reduceLT]; rfl)) | (apply zf; (· simp only [go_sem, Nat.reduceLT]; rfl))) | ((first | apply z9 | apply za); (· rfl); (· simp only [go_sem, Nat.reduceLT]; rfl)) | (apply z8; (· simp only [go_sem, Nat.reduceEqDiff])) | (apply z5; (· simp only [go_sem, Nat.reduceEqDiff])) | (apply ze; (· kernel_rfl); (· kernel_rfl)) | (simp only [bW, if_true, Nat.reduceEqDiff, if_false])
    have := h es (by simp)
    simp only [Nat.add_zero] at this
    exact this
  | succ m ih =>
    intro i es hi he h
    have hlt : ((i : Int) < p.sheets) = True := by simp; omega
    have hw1 : IntKind.i64.wrap (1 + (i : Int)) = 1 + (i : Int) := wrap_i64 (by omega) (by omega)
    have hw2 : IntKind.i64.wrap (-1 - (i : Int)) = -1 - (i : Int) := wrap_i64 (by omega) (by omega)
    have hw3 : IntKind.i64.wrap ((i : Int) + 1) = ((i + 1 : Nat) : Int) := by rw [wrap_i64 (by omega) (by omega)]; omega
    cases es with
    | nil =>
      simp only [outD, outO, outN]
      refine zv ?_
      dsimp only [lp68_2, zB, zo, Tryd.f68]
      simp only [bW, if_true, Nat.reduceEqDiff, if_false]
      repeat' first | (intro hb; first | cases hb | skip) | ((first | apply z6 | apply zc); (· rfl); (· simp (disch := assumption) only [go_sem, Nat.reduceEqDiff, Nat.reduceAdd, zw, zd, Nat.reduceLeDiff, Nat.reduceLT, Nat.reduceMul, List.length_append, decide_eq_true_eq, hlt, hw1, hw2, hw3]; rfl); (· simp only [go_sem, Nat.reduceLT, Nat.reduceEqDiff]; rfl); (· rfl); first | (apply zb; (· simp only [go_sem, Nat.reduceLT]; rfl); (· simp only [go_sem, Nat.reduceLT]; rfl)) | (apply zf; (· simp only [go_sem, Nat.reduceLT]; rfl))) | ((first | apply z9 | apply za); (· rfl); (· simp only [go_sem, Nat.reduceLT]; rfl)) | (apply z8; (· simp only [go_sem, Nat.reduceEqDiff])) | (apply z5; (· simp only [go_sem, Nat.reduceEqDiff])) | (apply ze; (· kernel_rfl); (· kernel_rfl)) | (simp only [bW, if_true, Nat.reduceEqDiff, if_false])
      refine zM (st1 := ⟨136, [(1, I ax), (2, .lref 0 0 3 0), (4, outD 1 (sheetE i)), (12, I p.sheets), (13, I (i + 1 : Nat))], (0, ⟨[zh p], 3, false⟩) :: outO 1 (sheetE i), outN 1 (sheetE i), 0⟩) lk68_2 (by kernel_rfl) (ih (i + 1) (sheetE i) (by omega) (by simp [sheetE] at he ⊢; omega) (fun es' he' => ?_))
      have := h es' (by rw [he', List.range'_succ]; rfl)
      rw [show i + 1 + m = i + (m + 1) by omega]
      exact this
    | cons e r =>
      simp only [List.length_cons] at he
      have hle : (r.length + 1 + 2 ≤ r.length + 1) = False := by simp
      have hb1 : ((r.length + 1 + 2) * 56 ≤ big) = True := by simp [big]; omega
      have hb2 : (r.length + 1 + 2 ≤ big) = True := by simp [big]; omega
      simp only [outD, outO, outN, List.map_cons]
      refine zv ?_
      dsimp only [lp68_2, zB, zo, Tryd.f68]
      simp only [bW, if_true, Nat.reduceEqDiff, if_false]
      repeat' first | (intro hb; first | cases hb | skip) | ((first | apply z6 | apply zc); (· rfl); (· simp (disch := assumption) only [go_sem, Nat.reduceEqDiff, Nat.reduceAdd, zw, zd, Nat.reduceLeDiff, Nat.reduceLT, Nat.reduceMul, List.length_append, decide_eq_true_eq, hlt, hw1, hw2, hw3, hle, hb1, hb2, ok_encE, take_map, List.length_map, encE]; rfl); (· simp only [go_sem, Nat.reduceLT, Nat.reduceEqDiff]; rfl); (· rfl); first | (apply zb; (· simp only [go_sem, Nat.reduceLT]; rfl); (· simp only [go_sem, Nat.reduceLT]; rfl)) | (apply zf; (· simp only [go_sem, Nat.reduceLT]; rfl))) | ((first | apply z9 | apply za); (· rfl); (· simp only [go_sem, Nat.reduceLT]; rfl)) | (apply z8; (· simp only [go_sem, Nat.reduceEqDiff])) | (apply z5; (· simp only [go_sem, Nat.reduceEqDiff])) | (apply ze; (· kernel_rfl); (· kernel_rfl)) | (simp only [bW, if_true, Nat.reduceEqDiff, if_false])
      refine zM (st1 := ⟨136, [(1, I ax), (2, .lref 0 0 3 0), (4, outD 1 ((e :: r) ++ sheetE i)), (12, I p.sheets), (13, I (i + 1 : Nat))], (0, ⟨[zh p], 3, false⟩) :: outO 1 ((e :: r) ++ sheetE i), outN 1 ((e :: r) ++ sheetE i), 0⟩) lk68_2 (by
        simp only [go_sem, List.map_append, Nat.reduceEqDiff, Nat.reduceLT, Nat.reduceAdd, zh, encE, ren_encE, ids_encE, ids_encE_app, outD, outO, outN, sheetE, List.length_append])  (ih (i + 1) ((e :: r) ++ sheetE i) (by omega) (by simp [sheetE]; omega) (fun es' he' => ?_))
      have := h es' (by rw [he', List.range'_succ]; simp)
      rw [show i + 1 + m = i + (m + 1) by omega]
      exact this

end Go.VS
namespace Go.VS
open Go Go.Proofs
set_option maxHeartbeats 0
set_option linter.unusedSimpArgs false
def markE (m : Mark) (i : Nat) : List Edge := [⟨1 + m.sheet, 0, ⟨m.seen + m.err, m.tru⟩, ⟨false, i, false⟩⟩, ⟨0, 1 + m.sheet, ⟨m.tru, m.seen - m.err⟩, ⟨false, i, true⟩⟩]
def joinE (j : Join) (i : Nat) : List Edge := [⟨1 + j.a, 1 + j.b, ⟨j.seenA + j.errA, j.seenB - j.errB⟩, ⟨true, i, false⟩⟩, ⟨1 + j.b, 1 + j.a, ⟨j.seenB + j.errB, j.seenA - j.errA⟩, ⟨true, i, true⟩⟩]
def marksE (ax : Int) : List Mark → Nat → List Edge
  | [], _ => []
  | m :: r, i => (if m.axis = ax then markE m i else []) ++ marksE ax r (i + 1)
def joinsE (ax : Int) : List Join → Nat → List Edge
  | [], _ => []
  | j :: r, i => (if j.axis = ax then joinE j i else []) ++ joinsE ax r (i + 1)

theorem L68_8 {F : Exit → St → Option D} (p : Paper) (ax : Int) (k : List Kt) (x : D) (hwf : p.wf) (hv : ∀ m ∈ p.marks, markOK p m = true) (hsh : p.sheets ≤ 4) : ∀ (rest : List Mark) (i : Nat) (es : List Edge), p.marks.drop i = rest → i ≤ p.marks.length → es.length + 2 * rest.length ≤ 1000 →
    (∀ es', es' = es ++ marksE ax rest i → zO cfg (lim cfg) 68 F k (.exit 2) ⟨136, [(39, B false), (1, I ax), (2, .lref 0 0 3 0), (4, outD 1 (es')), (36, .sl p.nm (p.marks.map zm) (zs p.nm 5) none), (37, I p.marks.length), (38, I (p.marks.length : Nat))], (0, ⟨[zh p], 3, false⟩) :: outO 1 (es'), outN 1 (es'), 0⟩ = some x) →
    EvL cfg (lim cfg) 68 F lp68_8 k ⟨136, [(1, I ax), (2, .lref 0 0 3 0), (4, outD 1 (es)), (36, .sl p.nm (p.marks.map zm) (zs p.nm 5) none), (37, I p.marks.length), (38, I (i : Nat))], (0, ⟨[zh p], 3, false⟩) :: outO 1 (es), outN 1 (es), 0⟩ = some x := by
  intro rest
  induction rest with
  | nil =>
    intro i es hd hi he h
    have hi' : i = p.marks.length := by
      have := List.drop_eq_nil_iff.1 hd
      omega
    subst hi'
    refine zv ?_
    dsimp only [lp68_8, zB, zo, Tryd.f68]
    simp only [bW, if_true, Nat.reduceEqDiff, if_false]
    repeat' first | (intro hb; first | cases hb | skip) | ((first | apply z6 | apply zc); (· rfl); (· simp (disch := assumption) only [go_sem, Nat.reduceEqDiff, Nat.reduceAdd, zw, zd, Nat.reduceLeDiff, Nat.reduceLT, Nat.reduceMul, List.length_append, decide_eq_true_eq, Int.lt_irrefl]; rfl); (· simp only [go_sem, Nat.reduceLT, Nat.reduceEqDiff]; rfl); (· rfl); first | (apply zb; (· simp only [go_sem, Nat.reduceLT]; rfl); (· simp only [go_sem, Nat.reduceLT]; rfl)) | (apply zf; (· simp only [go_sem, Nat.reduceLT]; rfl))) | ((first | apply z9 | apply za); (· rfl); (· simp only [go_sem, Nat.reduceLT]; rfl)) | (apply z8; (· simp only [go_sem, Nat.reduceEqDiff])) | (apply z5; (· simp only [go_sem, Nat.reduceEqDiff])) | (apply ze; (· kernel_rfl); (· kernel_rfl)) | (simp only [bW, if_true, Nat.reduceEqDiff, if_false])
    exact h es (by simp [marksE])
  | cons m rest ih =>
    intro i es hd hi he h
    have hlt : i < p.marks.length := by
      rcases Nat.lt_or_ge i p.marks.length with h | h
      · exact h
      · rw [List.drop_eq_nil_of_le h] at hd; cases hd
    have hm : p.marks[i]? = some m := by rw [← List.head?_drop, hd]; rfl
    have hx : (p.marks.map zm)[i]? = some (.agg [I m.sheet, I m.axis, I m.tru, I m.seen, I m.err]) := by rw [List.getElem?_map, hm]; rfl
    have hnm : p.nm = false := by
      cases h : p.nm with
      | false => rfl
      | true => rw [hwf.1 h] at hlt; cases hlt
    have hlt' : (i : Int) < (p.marks.length : Int) := by omega
    have hlen := hwf.2.2.1
    have hw3 : IntKind.i64.wrap ((i : Int) + 1) = ((i + 1 : Nat) : Int) := by rw [wrap_i64 (by omega) (by omega)]; omega
    have hok := hv m (List.mem_of_getElem? hm)
    simp [markOK, zA, isAxis, isSeen] at hok
    have hs1 : IntKind.i64.wrap (1 + m.sheet) = 1 + m.sheet := wrap_i64 (by omega) (by omega)
    have hs2 : IntKind.i64.wrap (m.seen + m.err) = m.seen + m.err := wrap_i64 (by omega) (by omega)
    have hs3 : IntKind.i64.wrap (m.seen - m.err) = m.seen - m.err := wrap_i64 (by omega) (by omega)
    cases es with
    | nil =>
      have hle : True = True := rfl
      have hb1 : True = True := rfl
      have hb2 : True = True := rfl
      by_cases hax : m.axis = ax
      · have hax1 : (m.axis == ax) = true := by simp [hax]
        simp only [outD, outO, outN]
        refine zv ?_
        dsimp only [lp68_8, zB, zo, Tryd.f68]
        simp only [bW, if_true, Nat.reduceEqDiff, if_false]
        repeat' first | (intro hb; first | cases hb | skip) | ((first | apply z6 | apply zc); (· rfl); (· simp (disch := assumption) only [go_sem, Nat.reduceEqDiff, Nat.reduceAdd, zw, zd, Nat.reduceLeDiff, Nat.reduceLT, Nat.reduceMul, List.length_append, decide_eq_true_eq, t63, hx, hnm, hlt', hw3, hle, hb1, hb2, ok_encE, take_map, List.length_map, encE, hs1, hs2, hs3, hax1]; rfl); (· simp only [go_sem, Nat.reduceLT, Nat.reduceEqDiff]; rfl); (· rfl); first | (apply zb; (· simp only [go_sem, Nat.reduceLT]; rfl); (· simp only [go_sem, Nat.reduceLT]; rfl)) | (apply zf; (· simp only [go_sem, Nat.reduceLT]; rfl))) | ((first | apply z9 | apply za); (· rfl); (· simp only [go_sem, Nat.reduceLT]; rfl)) | (apply z8; (· simp only [go_sem, Nat.reduceEqDiff])) | (apply z5; (· simp only [go_sem, Nat.reduceEqDiff])) | (apply ze; (· kernel_rfl); (· kernel_rfl)) | (simp only [bW, if_true, Nat.reduceEqDiff, if_false])
        refine zM (st1 := ⟨136, [(1, I ax), (2, .lref 0 0 3 0), (4, outD 1 (([]) ++ markE m i)), (36, .sl p.nm (p.marks.map zm) (zs p.nm 5) none), (37, I p.marks.length), (38, I (i + 1 : Nat))], (0, ⟨[zh p], 3, false⟩) :: outO 1 (([]) ++ markE m i), outN 1 (([]) ++ markE m i), 0⟩) lk68_8 (by
          simp only [go_sem, List.map_append, Nat.reduceEqDiff, Nat.reduceLT, Nat.reduceAdd, zh, encE, ren_encE, ids_encE, ids_encE_app, outD, outO, outN, markE, List.length_append]) (ih (i + 1) _ (by rw [← List.drop_drop, hd]; rfl) hlt (by simp only [markE, List.length_cons, List.length_append, List.length_nil] at he ⊢; omega) (fun es' he' => ?_))
        exact h es' (by rw [he', marksE]; simp [hax])
      · have hax0 : (m.axis == ax) = false := by simp [hax]
        simp only [outD, outO, outN]
        refine zv ?_
        dsimp only [lp68_8, zB, zo, Tryd.f68]
        simp only [bW, if_true, Nat.reduceEqDiff, if_false]
        repeat' first | (intro hb; first | cases hb | skip) | ((first | apply z6 | apply zc); (· rfl); (· simp (disch := assumption) only [go_sem, Nat.reduceEqDiff, Nat.reduceAdd, zw, zd, Nat.reduceLeDiff, Nat.reduceLT, Nat.reduceMul, List.length_append, decide_eq_true_eq, t63, hx, hnm, hlt', hw3, hle, hb1, hb2, ok_encE, take_map, List.length_map, encE, hs1, hs2, hs3, hax0]; rfl); (· simp only [go_sem, Nat.reduceLT, Nat.reduceEqDiff]; rfl); (· rfl); first | (apply zb; (· simp only [go_sem, Nat.reduceLT]; rfl); (· simp only [go_sem, Nat.reduceLT]; rfl)) | (apply zf; (· simp only [go_sem, Nat.reduceLT]; rfl))) | ((first | apply z9 | apply za); (· rfl); (· simp only [go_sem, Nat.reduceLT]; rfl)) | (apply z8; (· simp only [go_sem, Nat.reduceEqDiff])) | (apply z5; (· simp only [go_sem, Nat.reduceEqDiff])) | (apply ze; (· kernel_rfl); (· kernel_rfl)) | (simp only [bW, if_true, Nat.reduceEqDiff, if_false])
        refine zM (st1 := ⟨136, [(1, I ax), (2, .lref 0 0 3 0), (4, outD 1 ([])), (36, .sl p.nm (p.marks.map zm) (zs p.nm 5) none), (37, I p.marks.length), (38, I (i + 1 : Nat))], (0, ⟨[zh p], 3, false⟩) :: outO 1 ([]), outN 1 ([]), 0⟩) lk68_8 (by
          simp only [go_sem, List.map_append, Nat.reduceEqDiff, Nat.reduceLT, Nat.reduceAdd, zh, encE, ren_encE, ids_encE, ids_encE_app, outD, outO, outN, markE, List.length_append]) (ih (i + 1) _ (by rw [← List.drop_drop, hd]; rfl) hlt (by simp only [markE, List.length_cons, List.length_append, List.length_nil] at he ⊢; omega) (fun es' he' => ?_))
        exact h es' (by rw [he', marksE]; simp [hax])
    | cons e r =>
      simp only [List.length_cons] at he
      have hle : (r.length + 1 + 2 ≤ r.length + 1) = False := by simp
      have hb1 : ((r.length + 1 + 2) * 56 ≤ big) = True := by simp [big]; omega
      have hb2 : (r.length + 1 + 2 ≤ big) = True := by simp [big]; omega
      by_cases hax : m.axis = ax
      · have hax1 : (m.axis == ax) = true := by simp [hax]
        simp only [outD, outO, outN, List.map_cons]
        refine zv ?_
        dsimp only [lp68_8, zB, zo, Tryd.f68]
        simp only [bW, if_true, Nat.reduceEqDiff, if_false]
        repeat' first | (intro hb; first | cases hb | skip) | ((first | apply z6 | apply zc); (· rfl); (· simp (disch := assumption) only [go_sem, Nat.reduceEqDiff, Nat.reduceAdd, zw, zd, Nat.reduceLeDiff, Nat.reduceLT, Nat.reduceMul, List.length_append, decide_eq_true_eq, t63, hx, hnm, hlt', hw3, hle, hb1, hb2, ok_encE, take_map, List.length_map, encE, hs1, hs2, hs3, hax1]; rfl); (· simp only [go_sem, Nat.reduceLT, Nat.reduceEqDiff]; rfl); (· rfl); first | (apply zb; (· simp only [go_sem, Nat.reduceLT]; rfl); (· simp only [go_sem, Nat.reduceLT]; rfl)) | (apply zf; (· simp only [go_sem, Nat.reduceLT]; rfl))) | ((first | apply z9 | apply za); (· rfl); (· simp only [go_sem, Nat.reduceLT]; rfl)) | (apply z8; (· simp only [go_sem, Nat.reduceEqDiff])) | (apply z5; (· simp only [go_sem, Nat.reduceEqDiff])) | (apply ze; (· kernel_rfl); (· kernel_rfl)) | (simp only [bW, if_true, Nat.reduceEqDiff, if_false])
        refine zM (st1 := ⟨136, [(1, I ax), (2, .lref 0 0 3 0), (4, outD 1 ((e :: r) ++ markE m i)), (36, .sl p.nm (p.marks.map zm) (zs p.nm 5) none), (37, I p.marks.length), (38, I (i + 1 : Nat))], (0, ⟨[zh p], 3, false⟩) :: outO 1 ((e :: r) ++ markE m i), outN 1 ((e :: r) ++ markE m i), 0⟩) lk68_8 (by
          simp only [go_sem, List.map_append, Nat.reduceEqDiff, Nat.reduceLT, Nat.reduceAdd, zh, encE, ren_encE, ids_encE, ids_encE_app, outD, outO, outN, markE, List.length_append]) (ih (i + 1) _ (by rw [← List.drop_drop, hd]; rfl) hlt (by simp only [markE, List.length_cons, List.length_append, List.length_nil] at he ⊢; omega) (fun es' he' => ?_))
        exact h es' (by rw [he', marksE]; simp [hax])
      · have hax0 : (m.axis == ax) = false := by simp [hax]
        simp only [outD, outO, outN, List.map_cons]
        refine zv ?_
        dsimp only [lp68_8, zB, zo, Tryd.f68]
        simp only [bW, if_true, Nat.reduceEqDiff, if_false]
        repeat' first | (intro hb; first | cases hb | skip) | ((first | apply z6 | apply zc); (· rfl); (· simp (disch := assumption) only [go_sem, Nat.reduceEqDiff, Nat.reduceAdd, zw, zd, Nat.reduceLeDiff, Nat.reduceLT, Nat.reduceMul, List.length_append, decide_eq_true_eq, t63, hx, hnm, hlt', hw3, hle, hb1, hb2, ok_encE, take_map, List.length_map, encE, hs1, hs2, hs3, hax0]; rfl); (· simp only [go_sem, Nat.reduceLT, Nat.reduceEqDiff]; rfl); (· rfl); first | (apply zb; (· simp only [go_sem, Nat.reduceLT]; rfl); (· simp only [go_sem, Nat.reduceLT]; rfl)) | (apply zf; (· simp only [go_sem, Nat.reduceLT]; rfl))) | ((first | apply z9 | apply za); (· rfl); (· simp only [go_sem, Nat.reduceLT]; rfl)) | (apply z8; (· simp only [go_sem, Nat.reduceEqDiff])) | (apply z5; (· simp only [go_sem, Nat.reduceEqDiff])) | (apply ze; (· kernel_rfl); (· kernel_rfl)) | (simp only [bW, if_true, Nat.reduceEqDiff, if_false])
        refine zM (st1 := ⟨136, [(1, I ax), (2, .lref 0 0 3 0), (4, outD 1 (e :: r)), (36, .sl p.nm (p.marks.map zm) (zs p.nm 5) none), (37, I p.marks.length), (38, I (i + 1 : Nat))], (0, ⟨[zh p], 3, false⟩) :: outO 1 (e :: r), outN 1 (e :: r), 0⟩) lk68_8 (by
          simp only [go_sem, List.map_append, Nat.reduceEqDiff, Nat.reduceLT, Nat.reduceAdd, zh, encE, ren_encE, ids_encE, ids_encE_app, outD, outO, outN, markE, List.length_append]) (ih (i + 1) _ (by rw [← List.drop_drop, hd]; rfl) hlt (by simp only [markE, List.length_cons, List.length_append, List.length_nil] at he ⊢; omega) (fun es' he' => ?_))
        exact h es' (by rw [he', marksE]; simp [hax])

theorem L68_14 {F : Exit → St → Option D} (p : Paper) (ax : Int) (k : List Kt) (x : D) (hwf : p.wf) (hv : ∀ m ∈ p.joins, joinOK p m = true) (hsh : p.sheets ≤ 4) : ∀ (rest : List Join) (i : Nat) (es : List Edge), p.joins.drop i = rest → i ≤ p.joins.length → es.length + 2 * rest.length ≤ 1000 →
    (∀ es', es' = es ++ joinsE ax rest i → zO cfg (lim cfg) 68 F k (.exit 4) ⟨136, [(83, B false), (1, I ax), (4, outD 0 (es')), (80, .sl p.nj (p.joins.map zj) (zs p.nj 7) none), (81, I p.joins.length), (82, I (p.joins.length : Nat))], outO 0 (es'), outN 0 (es'), 0⟩ = some x) →
    EvL cfg (lim cfg) 68 F lp68_14 k ⟨136, [(1, I ax), (4, outD 0 (es)), (80, .sl p.nj (p.joins.map zj) (zs p.nj 7) none), (81, I p.joins.length), (82, I (i : Nat))], outO 0 (es), outN 0 (es), 0⟩ = some x := by
  intro rest
  induction rest with
  | nil =>
    intro i es hd hi he h
    have hi' : i = p.joins.length := by
      have := List.drop_eq_nil_iff.1 hd
      omega
    subst hi'
    refine zv ?_
    dsimp only [lp68_14, zB, zo, Tryd.f68]
    simp only [bW, if_true, Nat.reduceEqDiff, if_false]
    repeat' first | (intro hb; first | cases hb | skip) | ((first | apply z6 | apply zc); (· rfl); (· simp (disch := assumption) only [go_sem, Nat.reduceEqDiff, Nat.reduceAdd, zw, zd, Nat.reduceLeDiff, Nat.reduceLT, Nat.reduceMul, List.length_append, decide_eq_true_eq, Int.lt_irrefl]; rfl); (· simp only [go_sem, Nat.reduceLT, Nat.reduceEqDiff]; rfl); (· rfl); first | (apply zb; (· simp only [go_sem, Nat.reduceLT]; rfl); (· simp only [go_sem, Nat.reduceLT]; rfl)) | (apply zf; (· simp only [go_sem, Nat.reduceLT]; rfl))) | ((first | apply z9 | apply za); (· rfl); (· simp only [go_sem, Nat.reduceLT]; rfl)) | (apply z8; (· simp only [go_sem, Nat.reduceEqDiff])) | (apply z5; (· simp only [go_sem, Nat.reduceEqDiff])) | (apply ze; (· kernel_rfl); (· kernel_rfl)) | (simp only [bW, if_true, Nat.reduceEqDiff, if_false])
    exact h es (by simp [joinsE])
  | cons m rest ih =>
    intro i es hd hi he h
    have hlt : i < p.joins.length := by
      rcases Nat.lt_or_ge i p.joins.length with h | h
      · exact h
      · rw [List.drop_eq_nil_of_le h] at hd; cases hd
    have hm : p.joins[i]? = some m := by rw [← List.head?_drop, hd]; rfl
    have hx : (p.joins.map zj)[i]? = some (.agg [I m.a, I m.b, I m.axis, I m.seenA, I m.errA, I m.seenB, I m.errB]) := by rw [List.getElem?_map, hm]; rfl
    have hnm : p.nj = false := by
      cases h : p.nj with
      | false => rfl
      | true => rw [hwf.2.1 h] at hlt; cases hlt
    have hlt' : (i : Int) < (p.joins.length : Int) := by omega
    have hlen := hwf.2.2.2
    have hw3 : IntKind.i64.wrap ((i : Int) + 1) = ((i + 1 : Nat) : Int) := by rw [wrap_i64 (by omega) (by omega)]; omega
    have hok := hv m (List.mem_of_getElem? hm)
    simp [joinOK, zA, isAxis, isSeen] at hok
    have hs1 : IntKind.i64.wrap (1 + m.a) = 1 + m.a := wrap_i64 (by omega) (by omega)
    have hs2 : IntKind.i64.wrap (1 + m.b) = 1 + m.b := wrap_i64 (by omega) (by omega)
    have hs3 : IntKind.i64.wrap (m.seenA + m.errA) = m.seenA + m.errA := wrap_i64 (by omega) (by omega)
    have hs4 : IntKind.i64.wrap (m.seenB - m.errB) = m.seenB - m.errB := wrap_i64 (by omega) (by omega)
    have hs5 : IntKind.i64.wrap (m.seenB + m.errB) = m.seenB + m.errB := wrap_i64 (by omega) (by omega)
    have hs6 : IntKind.i64.wrap (m.seenA - m.errA) = m.seenA - m.errA := wrap_i64 (by omega) (by omega)
    cases es with
    | nil =>
      have hle : True = True := rfl
      have hb1 : True = True := rfl
      have hb2 : True = True := rfl
      by_cases hax : m.axis = ax
      · have hax1 : (m.axis == ax) = true := by simp [hax]
        simp only [outD, outO, outN]
        refine zv ?_
        dsimp only [lp68_14, zB, zo, Tryd.f68]
        simp only [bW, if_true, Nat.reduceEqDiff, if_false]
        repeat' first | (intro hb; first | cases hb | skip) | ((first | apply z6 | apply zc); (· rfl); (· simp (disch := assumption) only [go_sem, Nat.reduceEqDiff, Nat.reduceAdd, zw, zd, Nat.reduceLeDiff, Nat.reduceLT, Nat.reduceMul, List.length_append, decide_eq_true_eq, t63, hx, hnm, hlt', hw3, hle, hb1, hb2, ok_encE, take_map, List.length_map, encE, hs1, hs2, hs3, hs4, hs5, hs6, hax1]; rfl); (· simp only [go_sem, Nat.reduceLT, Nat.reduceEqDiff]; rfl); (· rfl); first | (apply zb; (· simp only [go_sem, Nat.reduceLT]; rfl); (· simp only [go_sem, Nat.reduceLT]; rfl)) | (apply zf; (· simp only [go_sem, Nat.reduceLT]; rfl))) | ((first | apply z9 | apply za); (· rfl); (· simp only [go_sem, Nat.reduceLT]; rfl)) | (apply z8; (· simp only [go_sem, Nat.reduceEqDiff])) | (apply z5; (· simp only [go_sem, Nat.reduceEqDiff])) | (apply ze; (· kernel_rfl); (· kernel_rfl)) | (simp only [bW, if_true, Nat.reduceEqDiff, if_false])
        refine zM (st1 := ⟨136, [(1, I ax), (4, outD 0 (([]) ++ joinE m i)), (80, .sl p.nj (p.joins.map zj) (zs p.nj 7) none), (81, I p.joins.length), (82, I (i + 1 : Nat))], outO 0 (([]) ++ joinE m i), outN 0 (([]) ++ joinE m i), 0⟩) lk68_14 (by
          simp only [go_sem, List.map_append, Nat.reduceEqDiff, Nat.reduceLT, Nat.reduceAdd, zh, encE, ren_encE, ids_encE, ids_encE_app, outD, outO, outN, joinE, List.length_append]) (ih (i + 1) _ (by rw [← List.drop_drop, hd]; rfl) hlt (by simp only [joinE, List.length_cons, List.length_append, List.length_nil] at he ⊢; omega) (fun es' he' => ?_))
        exact h es' (by rw [he', joinsE]; simp [hax])
      · have hax0 : (m.axis == ax) = false := by simp [hax]
        simp only [outD, outO, outN]
        refine zv ?_
        dsimp only [lp68_14, zB, zo, Tryd.f68]
        simp only [bW, if_true, Nat.reduceEqDiff, if_false]
        repeat' first | (intro hb; first | cases hb | skip) | ((first | apply z6 | apply zc); (· rfl); (· simp (disch := assumption) only [go_sem, Nat.reduceEqDiff, Nat.reduceAdd, zw, zd, Nat.reduceLeDiff, Nat.reduceLT, Nat.reduceMul, List.length_append, decide_eq_true_eq, t63, hx, hnm, hlt', hw3, hle, hb1, hb2, ok_encE, take_map, List.length_map, encE, hs1, hs2, hs3, hs4, hs5, hs6, hax0]; rfl); (· simp only [go_sem, Nat.reduceLT, Nat.reduceEqDiff]; rfl); (· rfl); first | (apply zb; (· simp only [go_sem, Nat.reduceLT]; rfl); (· simp only [go_sem, Nat.reduceLT]; rfl)) | (apply zf; (· simp only [go_sem, Nat.reduceLT]; rfl))) | ((first | apply z9 | apply za); (· rfl); (· simp only [go_sem, Nat.reduceLT]; rfl)) | (apply z8; (· simp only [go_sem, Nat.reduceEqDiff])) | (apply z5; (· simp only [go_sem, Nat.reduceEqDiff])) | (apply ze; (· kernel_rfl); (· kernel_rfl)) | (simp only [bW, if_true, Nat.reduceEqDiff, if_false])
        refine zM (st1 := ⟨136, [(1, I ax), (4, outD 0 ([])), (80, .sl p.nj (p.joins.map zj) (zs p.nj 7) none), (81, I p.joins.length), (82, I (i + 1 : Nat))], outO 0 ([]), outN 0 ([]), 0⟩) lk68_14 (by
          simp only [go_sem, List.map_append, Nat.reduceEqDiff, Nat.reduceLT, Nat.reduceAdd, zh, encE, ren_encE, ids_encE, ids_encE_app, outD, outO, outN, joinE, List.length_append]) (ih (i + 1) _ (by rw [← List.drop_drop, hd]; rfl) hlt (by simp only [joinE, List.length_cons, List.length_append, List.length_nil] at he ⊢; omega) (fun es' he' => ?_))
        exact h es' (by rw [he', joinsE]; simp [hax])
    | cons e r =>
      simp only [List.length_cons] at he
      have hle : (r.length + 1 + 2 ≤ r.length + 1) = False := by simp
      have hb1 : ((r.length + 1 + 2) * 56 ≤ big) = True := by simp [big]; omega
      have hb2 : (r.length + 1 + 2 ≤ big) = True := by simp [big]; omega
      by_cases hax : m.axis = ax
      · have hax1 : (m.axis == ax) = true := by simp [hax]
        simp only [outD, outO, outN, List.map_cons]
        refine zv ?_
        dsimp only [lp68_14, zB, zo, Tryd.f68]
        simp only [bW, if_true, Nat.reduceEqDiff, if_false]
        repeat' first | (intro hb; first | cases hb | skip) | ((first | apply z6 | apply zc); (· rfl); (· simp (disch := assumption) only [go_sem, Nat.reduceEqDiff, Nat.reduceAdd, zw, zd, Nat.reduceLeDiff, Nat.reduceLT, Nat.reduceMul, List.length_append, decide_eq_true_eq, t63, hx, hnm, hlt', hw3, hle, hb1, hb2, ok_encE, take_map, List.length_map, encE, hs1, hs2, hs3, hs4, hs5, hs6, hax1]; rfl); (· simp only [go_sem, Nat.reduceLT, Nat.reduceEqDiff]; rfl); (· rfl); first | (apply zb; (· simp only [go_sem, Nat.reduceLT]; rfl); (· simp only [go_sem, Nat.reduceLT]; rfl)) | (apply zf; (· simp only [go_sem, Nat.reduceLT]; rfl))) | ((first | apply z9 | apply za); (· rfl); (· simp only [go_sem, Nat.reduceLT]; rfl)) | (apply z8; (· simp only [go_sem, Nat.reduceEqDiff])) | (apply z5; (· simp only [go_sem, Nat.reduceEqDiff])) | (apply ze; (· kernel_rfl); (· kernel_rfl)) | (simp only [bW, if_true, Nat.reduceEqDiff, if_false])
        refine zM (st1 := ⟨136, [(1, I ax), (4, outD 0 ((e :: r) ++ joinE m i)), (80, .sl p.nj (p.joins.map zj) (zs p.nj 7) none), (81, I p.joins.length), (82, I (i + 1 : Nat))], outO 0 ((e :: r) ++ joinE m i), outN 0 ((e :: r) ++ joinE m i), 0⟩) lk68_14 (by
          simp only [go_sem, List.map_append, Nat.reduceEqDiff, Nat.reduceLT, Nat.reduceAdd, zh, encE, ren_encE, ids_encE, ids_encE_app, outD, outO, outN, joinE, List.length_append]) (ih (i + 1) _ (by rw [← List.drop_drop, hd]; rfl) hlt (by simp only [joinE, List.length_cons, List.length_append, List.length_nil] at he ⊢; omega) (fun es' he' => ?_))
        exact h es' (by rw [he', joinsE]; simp [hax])
      · have hax0 : (m.axis == ax) = false := by simp [hax]
        simp only [outD, outO, outN, List.map_cons]
        refine zv ?_
        dsimp only [lp68_14, zB, zo, Tryd.f68]
        simp only [bW, if_true, Nat.reduceEqDiff, if_false]
        repeat' first | (intro hb; first | cases hb | skip) | ((first | apply z6 | apply zc); (· rfl); (· simp (disch := assumption) only [go_sem, Nat.reduceEqDiff, Nat.reduceAdd, zw, zd, Nat.reduceLeDiff, Nat.reduceLT, Nat.reduceMul, List.length_append, decide_eq_true_eq, t63, hx, hnm, hlt', hw3, hle, hb1, hb2, ok_encE, take_map, List.length_map, encE, hs1, hs2, hs3, hs4, hs5, hs6, hax0]; rfl); (· simp only [go_sem, Nat.reduceLT, Nat.reduceEqDiff]; rfl); (· rfl); first | (apply zb; (· simp only [go_sem, Nat.reduceLT]; rfl); (· simp only [go_sem, Nat.reduceLT]; rfl)) | (apply zf; (· simp only [go_sem, Nat.reduceLT]; rfl))) | ((first | apply z9 | apply za); (· rfl); (· simp only [go_sem, Nat.reduceLT]; rfl)) | (apply z8; (· simp only [go_sem, Nat.reduceEqDiff])) | (apply z5; (· simp only [go_sem, Nat.reduceEqDiff])) | (apply ze; (· kernel_rfl); (· kernel_rfl)) | (simp only [bW, if_true, Nat.reduceEqDiff, if_false])
        refine zM (st1 := ⟨136, [(1, I ax), (4, outD 0 (e :: r)), (80, .sl p.nj (p.joins.map zj) (zs p.nj 7) none), (81, I p.joins.length), (82, I (i + 1 : Nat))], outO 0 (e :: r), outN 0 (e :: r), 0⟩) lk68_14 (by
          simp only [go_sem, List.map_append, Nat.reduceEqDiff, Nat.reduceLT, Nat.reduceAdd, zh, encE, ren_encE, ids_encE, ids_encE_app, outD, outO, outN, joinE, List.length_append]) (ih (i + 1) _ (by rw [← List.drop_drop, hd]; rfl) hlt (by simp only [joinE, List.length_cons, List.length_append, List.length_nil] at he ⊢; omega) (fun es' he' => ?_))
        exact h es' (by rw [he', joinsE]; simp [hax])

end Go.VS
namespace Go.VS
open Go Go.Proofs
set_option maxHeartbeats 0
set_option linter.unusedSimpArgs false
theorem snap_encE (g : Nat → Option Ob) (f : Nat) (r : List Edge) : snapAll (snap g (f + 2)) (List.map encE r) = some (List.map encE r, []) := by
  induction r with
  | nil => rfl
  | cons e r ih =>
    simp only [List.map_cons, snapAll, ih]
    rfl
def zI (p : Paper) (ax : Int) : List Edge := (List.range' 0 p.sheets.toNat).flatMap sheetE ++ marksE ax p.marks 0 ++ joinsE ax p.joins 0
theorem marksE_len (ax : Int) : ∀ (l : List Mark) (i : Nat), (marksE ax l i).length ≤ 2 * l.length
  | [], _ => by simp [marksE]
  | m :: r, i => by
    have := marksE_len ax r (i + 1)
    simp only [marksE, List.length_append, List.length_cons]
    split <;> simp [markE] <;> omega
theorem joinsE_len (ax : Int) : ∀ (l : List Join) (i : Nat), (joinsE ax l i).length ≤ 2 * l.length
  | [], _ => by simp [joinsE]
  | m :: r, i => by
    have := joinsE_len ax r (i + 1)
    simp only [joinsE, List.length_append, List.length_cons]
    split <;> simp [joinE] <;> omega
theorem sheetsE_len : ∀ (m i : Nat), ((List.range' i m).flatMap sheetE).length = 2 * m
  | 0, i => rfl
  | m + 1, i => by
    have := sheetsE_len m (i + 1)
    simp only [List.range'_succ, List.flatMap_cons, List.length_append, this, sheetE, List.length_cons, List.length_nil]; omega

theorem t68 (p : Paper) (ax : Int) (hwf : p.wf) (hok : zt p = true) : (lim cfg).pure 68 [zh p, I ax] = some (.sl false ((zI p ax).map encE) 7 none) := by
  have hlm := len_if (f := zm) hwf.1
  have hlj := len_if (f := zj) hwf.2.1
  simp only [zt, Bool.and_eq_true, decide_eq_true_eq, List.all_eq_true] at hok
  obtain ⟨⟨⟨⟨⟨o1, o2⟩, o3⟩, o4⟩, o5⟩, o6⟩ := hok
  obtain ⟨n, hn⟩ := Int.eq_ofNat_of_zero_le (show 0 ≤ p.sheets by omega)
  refine zp (zk 68) cfn68 rfl (n := 136) rfl ?_
  generalize hF : finP cfg Tryd.f68 = F
  simp only [bW, if_true, Nat.reduceEqDiff, if_false, zi]
  repeat' first | (intro hb; first | cases hb | skip) | ((first | apply z6 | apply zc); (· rfl); (· simp (disch := assumption) only [go_sem, Nat.reduceEqDiff, Nat.reduceAdd, zw, zd, Nat.reduceLeDiff, Nat.reduceLT, Nat.reduceMul, List.length_append, hlm, hlj]; rfl); (· simp only [go_sem, Nat.reduceLT, Nat.reduceEqDiff]; rfl); (· rfl); first | (apply zb; (· simp only [go_sem, Nat.reduceLT]; rfl); (· simp only [go_sem, Nat.reduceLT]; rfl)) | (apply zf; (· simp only [go_sem, Nat.reduceLT]; rfl))) | ((first | apply z9 | apply za); (· rfl); (· simp only [go_sem, Nat.reduceLT]; rfl)) | (apply z8; (· simp only [go_sem, Nat.reduceEqDiff])) | (apply z5; (· simp only [go_sem, Nat.reduceEqDiff])) | (apply ze; (· kernel_rfl); (· kernel_rfl)) | (simp only [bW, if_true, Nat.reduceEqDiff, if_false])
  refine w_loop (st1 := ⟨136, [(1, I ax), (2, .lref 0 0 3 0), (4, outD 1 []), (12, I p.sheets), (13, I (0 : Nat))], (0, ⟨[zh p], 3, false⟩) :: outO 1 [], outN 1 [], 0⟩) lk68_2 (by kernel_rfl)
    (L68_2 p ax _ _ o2 n 0 [] (by omega) (by simp; omega) (fun es he => ?_))
  have hl1 := sheetsE_len n 0
  have hes1 : es.length = 2 * n := by rw [he]; simpa using hl1
  obtain ⟨e, r, rfl⟩ : ∃ e r, es = e :: r := by
    cases es with
    | nil => simp at hes1; omega
    | cons e r => exact ⟨e, r, rfl⟩
  simp only [outD, outO, outN, bW, if_true, Nat.reduceEqDiff, if_false]
  repeat' first | (intro hb; first | cases hb | skip) | ((first | apply z6 | apply zc); (· rfl); (· simp (disch := assumption) only [go_sem, Nat.reduceEqDiff, Nat.reduceAdd, zw, zd, Nat.reduceLeDiff, Nat.reduceLT, Nat.reduceMul, List.length_append, hlm, hlj]; rfl); (· simp only [go_sem, Nat.reduceLT, Nat.reduceEqDiff]; rfl); (· rfl); first | (apply zb; (· simp only [go_sem, Nat.reduceLT]; rfl); (· simp only [go_sem, Nat.reduceLT]; rfl)) | (apply zf; (· simp only [go_sem, Nat.reduceLT]; rfl))) | ((first | apply z9 | apply za); (· rfl); (· simp only [go_sem, Nat.reduceLT]; rfl)) | (apply z8; (· simp only [go_sem, Nat.reduceEqDiff])) | (apply z5; (· simp only [go_sem, Nat.reduceEqDiff])) | (apply ze; (· kernel_rfl); (· kernel_rfl)) | (simp only [bW, if_true, Nat.reduceEqDiff, if_false])
  refine w_loop (st1 := ⟨136, [(1, I ax), (2, .lref 0 0 3 0), (4, outD 1 (e :: r)), (36, .sl p.nm (p.marks.map zm) (zs p.nm 5) none), (37, I p.marks.length), (38, I (0 : Nat))], (0, ⟨[zh p], 3, false⟩) :: outO 1 (e :: r), outN 1 (e :: r), 0⟩) lk68_8 (by
      simp only [go_sem, List.map_append, Nat.reduceEqDiff, Nat.reduceLT, Nat.reduceAdd, zh, encE, ren_encE, ids_encE, ids_encE_app, List.length_append, outD, outO, outN]
      rfl)
    (L68_8 p ax _ _ hwf o5 o2 p.marks 0 (e :: r) rfl (Nat.zero_le _) (by omega) (fun es2 he2 => ?_))
  obtain ⟨e2, r2, rfl⟩ : ∃ e r, es2 = e :: r := by rw [he2]; exact ⟨_, _, rfl⟩
  have hm := marksE_len ax p.marks 0
  have hes2 : (e2 :: r2).length ≤ 2 * n + 48 := by rw [he2, List.length_append]; omega
  simp only [outD, outO, outN, bW, if_true, Nat.reduceEqDiff, if_false]
  repeat' first | (intro hb; first | cases hb | skip) | ((first | apply z6 | apply zc); (· rfl); (· simp (disch := assumption) only [go_sem, Nat.reduceEqDiff, Nat.reduceAdd, zw, zd, Nat.reduceLeDiff, Nat.reduceLT, Nat.reduceMul, List.length_append, hlm, hlj]; rfl); (· simp only [go_sem, Nat.reduceLT, Nat.reduceEqDiff]; rfl); (· rfl); first | (apply zb; (· simp only [go_sem, Nat.reduceLT]; rfl); (· simp only [go_sem, Nat.reduceLT]; rfl)) | (apply zf; (· simp only [go_sem, Nat.reduceLT]; rfl))) | ((first | apply z9 | apply za); (· rfl); (· simp only [go_sem, Nat.reduceLT]; rfl)) | (apply z8; (· simp only [go_sem, Nat.reduceEqDiff])) | (apply z5; (· simp only [go_sem, Nat.reduceEqDiff])) | (apply ze; (· kernel_rfl); (· kernel_rfl)) | (simp only [bW, if_true, Nat.reduceEqDiff, if_false])
  refine w_loop (st1 := ⟨136, [(1, I ax), (4, outD 0 (e2 :: r2)), (80, .sl p.nj (p.joins.map zj) (zs p.nj 7) none), (81, I p.joins.length), (82, I (0 : Nat))], outO 0 (e2 :: r2), outN 0 (e2 :: r2), 0⟩) lk68_14 (by
      simp only [go_sem, List.map_append, Nat.reduceEqDiff, Nat.reduceLT, Nat.reduceAdd, zh, encE, ren_encE, ids_encE, ids_encE_app, List.length_append, outD, outO, outN]
      rfl)
    (L68_14 p ax _ _ hwf o6 o2 p.joins 0 (e2 :: r2) rfl (Nat.zero_le _) (by omega) (fun es3 he3 => ?_))
  obtain ⟨e3, r3, rfl⟩ : ∃ e r, es3 = e :: r := by rw [he3]; exact ⟨_, _, rfl⟩
  simp only [outD, outO, outN, bW, if_true, Nat.reduceEqDiff, if_false]
  repeat' first | (intro hb; first | cases hb | skip) | ((first | apply z6 | apply zc); (· rfl); (· simp (disch := assumption) only [go_sem, Nat.reduceEqDiff, Nat.reduceAdd, zw, zd, Nat.reduceLeDiff, Nat.reduceLT, Nat.reduceMul, List.length_append, hlm, hlj]; rfl); (· simp only [go_sem, Nat.reduceLT, Nat.reduceEqDiff]; rfl); (· rfl); first | (apply zb; (· simp only [go_sem, Nat.reduceLT]; rfl); (· simp only [go_sem, Nat.reduceLT]; rfl)) | (apply zf; (· simp only [go_sem, Nat.reduceLT]; rfl))) | ((first | apply z9 | apply za); (· rfl); (· simp only [go_sem, Nat.reduceLT]; rfl)) | (apply z8; (· simp only [go_sem, Nat.reduceEqDiff])) | (apply z5; (· simp only [go_sem, Nat.reduceEqDiff])) | (apply ze; (· kernel_rfl); (· kernel_rfl)) | (simp only [bW, if_true, Nat.reduceEqDiff, if_false])
  have hfin : e3 :: r3 = zI p ax := by
    rw [he3, he2, he]; simp [zI, hn]
  subst hF
  rw [← hfin]
  have ht := take_map (f := encE) r3
  simp only [go_sem, Nat.reduceEqDiff, zw, Nat.reduceAdd, Nat.reduceLeDiff, List.length_map, Tryd.f68, snap_encE, take_map, encE]

end Go.VS
namespace Go.VS
open Go Go.Proofs
set_option maxHeartbeats 0
set_option linter.unusedSimpArgs false
structure Chn where
  q : Ratio
  why : List Reason
def encR (r : Ratio) : D := .agg [I r.n, I r.d]
def encW (w : Reason) : D := .agg [B w.join, I w.at_, B w.back]
def whyD (ws : List Reason) : D := match ws with | [] => .sl true [] 0 none | w :: r => .sl false ((w :: r).map encW) 3 none
def encC (c : Chn) : D := .agg [I c.q.n, I c.q.d, whyD c.why]
def lowR (n d : Int) : Ratio := ⟨n / gcdI n d, d / gcdI n d⟩
def withC (c : Chn) (e : Edge) : Chn := ⟨lowR (c.q.n * e.q.n) (c.q.d * e.q.d), c.why ++ [e.why]⟩
theorem ok_encW (r : List Reason) : allOk 3 (List.map encW r) = true := by
  induction r with
  | nil => rfl
  | cons e r ih => simp only [List.map_cons, allOk, ih]; rfl
theorem snap_encW (g : Nat → Option Ob) (f : Nat) (r : List Reason) : snapAll (snap g (f + 2)) (List.map encW r) = some (List.map encW r, []) := by
  induction r with
  | nil => rfl
  | cons e r ih => simp only [List.map_cons, snapAll, ih]; rfl

theorem take_snoc {α β : Type} {f : α → β} (r : List α) (x : β) : List.take (r.length + 1) (List.map f r ++ [x]) = List.map f r ++ [x] := by
  rw [List.take_of_length_le]; simp
theorem snap_snoc (g : Nat → Option Ob) (f : Nat) (r : List Reason) (w : Reason) : snapAll (snap g (f + 2)) (List.map encW r ++ [.agg [B w.join, I w.at_, B w.back]]) = some (List.map encW r ++ [.agg [B w.join, I w.at_, B w.back]], []) := by
  have := snap_encW g f (r ++ [w])
  simpa [encW] using this

example : (1 : Nat) + 1 = 2 := by simp only [go_sem, Nat.reduceEqDiff, Nat.reduceAdd, zw, zd, Nat.reduceLeDiff, Nat.reduceLT, Nat.reduceMul, List.length_append, decide_eq_true_eq]
example : (1 : Nat) + 1 = 2 := by simp only [bW, if_true, Nat.reduceEqDiff, if_false, Nat.reduceAdd]
example : (1 : Nat) + 1 = 2 := by simp only [go_sem, Nat.reduceEqDiff, zw, Nat.reduceAdd, Nat.reduceLeDiff, List.length_map]

theorem t107 (c : Chn) (e : Edge) (h1 : 1 ≤ c.q.n * e.q.n) (h2 : c.q.n * e.q.n < 9223372036854775808) (h3 : 1 ≤ c.q.d * e.q.d) (h4 : c.q.d * e.q.d < 9223372036854775808) (hl : c.why.length ≤ 1000) : (lim cfg).pure 107 [encC c, encE e] = some (encC (withC c e)) := by
  have hw1 : IntKind.i64.wrap (c.q.n * e.q.n) = c.q.n * e.q.n := wrap_i64 (by omega) (by omega)
  have hw2 : IntKind.i64.wrap (c.q.d * e.q.d) = c.q.d * e.q.d := wrap_i64 (by omega) (by omega)
  have t117' := t117 (c.q.n * e.q.n) (c.q.d * e.q.d) h1 h2 h3 h4
  obtain ⟨⟨n, d⟩, ws⟩ := c
  cases ws with
  | nil =>
    refine zp (zk 107) cfn107 rfl (n := 35) rfl ?_
    simp only [bW, if_true, Nat.reduceEqDiff, if_false, zi, encC, whyD, encE]
    repeat' first | (intro hb; first | cases hb | skip) | ((first | apply z6 | apply zc); (· rfl); (· simp (disch := assumption) only [go_sem, Nat.reduceEqDiff, Nat.reduceAdd, zw, zd, Nat.reduceLeDiff, Nat.reduceLT, Nat.reduceMul, List.length_append, decide_eq_true_eq, t117', hw1, hw2]; rfl); (· simp only [go_sem, Nat.reduceLT, Nat.reduceEqDiff]; rfl); (· rfl); first | (apply zb; (· simp only [go_sem, Nat.reduceLT]; rfl); (· simp only [go_sem, Nat.reduceLT]; rfl)) | (apply zf; (· simp only [go_sem, Nat.reduceLT]; rfl))) | ((first | apply z9 | apply za); (· rfl); (· simp only [go_sem, Nat.reduceLT]; rfl)) | (apply z8; (· simp only [go_sem, Nat.reduceEqDiff])) | (apply z5; (· simp only [go_sem, Nat.reduceEqDiff])) | (apply ze; (· kernel_rfl); (· kernel_rfl)) | (simp only [bW, if_true, Nat.reduceEqDiff, if_false])
    all_goals simp only [go_sem, Nat.reduceEqDiff, zw, Nat.reduceAdd, Nat.reduceLeDiff, List.length_map, Tryd.f107]
    all_goals rfl
  | cons w r =>
    simp only [List.length_cons] at hl
    have hb1 : ((r.length + 1 + 1) * 24 ≤ big) = True := by simp [big]; omega
    have hb2 : (r.length + 1 + 1 ≤ big) = True := by simp [big]; omega
    have hlt : (r.length + 1 < r.length + 1 + 1) = True := by simp
    have hle2 : (r.length + 1 ≤ r.length + 1) = True := by simp
    refine zp (zk 107) cfn107 rfl (n := 35) rfl ?_
    simp only [bW, if_true, Nat.reduceEqDiff, if_false, zi, encC, whyD, encE, List.map_cons]
    repeat' first | (intro hb; first | cases hb | skip) | ((first | apply z6 | apply zc); (· rfl); (· simp (disch := assumption) only [go_sem, Nat.reduceEqDiff, Nat.reduceAdd, zw, zd, Nat.reduceLeDiff, Nat.reduceLT, Nat.reduceMul, List.length_append, decide_eq_true_eq, t117', hw1, hw2, List.length_map, hb1, hb2, hlt, hle2, ok_encW, encW, take_map]; rfl); (· simp only [go_sem, Nat.reduceLT, Nat.reduceEqDiff]; rfl); (· rfl); first | (apply zb; (· simp only [go_sem, Nat.reduceLT]; rfl); (· simp only [go_sem, Nat.reduceLT]; rfl)) | (apply zf; (· simp only [go_sem, Nat.reduceLT]; rfl))) | ((first | apply z9 | apply za); (· rfl); (· simp only [go_sem, Nat.reduceLT]; rfl)) | (apply z8; (· simp only [go_sem, Nat.reduceEqDiff])) | (apply z5; (· simp only [go_sem, Nat.reduceEqDiff])) | (apply ze; (· kernel_rfl); (· kernel_rfl)) | (simp only [bW, if_true, Nat.reduceEqDiff, if_false])
    all_goals simp only [go_sem, Nat.reduceEqDiff, zw, Nat.reduceAdd, Nat.reduceLeDiff, List.length_map, Tryd.f107, snap_encW, take_map, List.length_append, hle2, take_snoc, snap_snoc]
    all_goals simp [withC, lowR, encW]

structure Span where
  lo : Int
  hi : Int
def encS (s : Span) : D := .agg [I s.lo, I s.hi]
def ratioOK (r : Ratio) : Bool := decide (1 ≤ r.n) && decide (r.n ≤ 1125899906842624) && decide (1 ≤ r.d) && decide (r.d ≤ 1125899906842624)
def cmpR (a b : Ratio) : Int := cmpI (a.n * b.d) (b.n * a.d)
def spanOK (s : Span) : Bool := decide (0 ≤ s.lo) && decide (s.lo ≤ s.hi) && decide (s.hi ≤ 1048576)
def example1 : Paper := ⟨2, false, [⟨0, 0, 100, 98, 1⟩], false, [⟨0, 1, 0, 50, 1, 100, 2⟩]⟩
theorem t66' (r : Ratio) : (lim cfg).pure 66 [.agg [I r.n, I r.d]] = some (B (ratioOK r)) := t66 r.n r.d
theorem ratio_p63 {r : Ratio} (h : ratioOK r = true) : P63 r.n ∧ P63 r.d := by
  simp [ratioOK] at h; unfold P63; omega
theorem t75' (a b : Ratio) (ha : ratioOK a = true) (hb : ratioOK b = true) : (lim cfg).pure 75 [.agg [I a.n, I a.d], .agg [I b.n, I b.d]] = some (I (cmpR a b)) := t75 a.n a.d b.n b.d (ratio_p63 ha).1 (ratio_p63 ha).2 (ratio_p63 hb).1 (ratio_p63 hb).2

theorem t21 (n d : Int) : (lim cfg).pure 21 [I n, I d] = some (encR ⟨n, d⟩) := by
  refine zp (zk 21) cfn21 rfl (n := 8) rfl ?_
  simp only [bW, if_true, Nat.reduceEqDiff, if_false, zi]
  repeat' first | (intro hb; first | cases hb | skip) | ((first | apply z6 | apply zc); (· rfl); (· simp (disch := assumption) only [go_sem, Nat.reduceEqDiff, Nat.reduceAdd, zw, zd, Nat.reduceLeDiff, Nat.reduceLT, Nat.reduceMul, List.length_append, decide_eq_true_eq]; rfl); (· simp only [go_sem, Nat.reduceLT, Nat.reduceEqDiff]; rfl); (· rfl); first | (apply zb; (· simp only [go_sem, Nat.reduceLT]; rfl); (· simp only [go_sem, Nat.reduceLT]; rfl)) | (apply zf; (· simp only [go_sem, Nat.reduceLT]; rfl))) | ((first | apply z9 | apply za); (· rfl); (· simp only [go_sem, Nat.reduceLT]; rfl)) | (apply z8; (· simp only [go_sem, Nat.reduceEqDiff])) | (apply z5; (· simp only [go_sem, Nat.reduceEqDiff])) | (apply ze; (· kernel_rfl); (· kernel_rfl)) | (simp only [bW, if_true, Nat.reduceEqDiff, if_false])
  all_goals simp only [go_sem, Nat.reduceEqDiff, zw, Nat.reduceAdd, Nat.reduceLeDiff, List.length_map, Tryd.f21]
  all_goals first | rfl | (simp_all []; done) | (simp_all []; intros; omega)

theorem t26 (a b : Ratio) : (lim cfg).pure 26 [encR a, encR b] = some (.tup (if ratioOK a && ratioOK b then [I (cmpR a b), I 0] else [I 0, I 1])) := by
  refine zp (zk 26) cfn26 rfl (n := 17) rfl ?_
  simp only [bW, if_true, Nat.reduceEqDiff, if_false, zi]
  repeat' first | (intro hb; first | cases hb | skip) | ((first | apply z6 | apply zc); (· rfl); (· simp (disch := assumption) only [go_sem, Nat.reduceEqDiff, Nat.reduceAdd, zw, zd, Nat.reduceLeDiff, Nat.reduceLT, Nat.reduceMul, List.length_append, decide_eq_true_eq, t66', encR, t75']; rfl); (· simp only [go_sem, Nat.reduceLT, Nat.reduceEqDiff]; rfl); (· rfl); first | (apply zb; (· simp only [go_sem, Nat.reduceLT]; rfl); (· simp only [go_sem, Nat.reduceLT]; rfl)) | (apply zf; (· simp only [go_sem, Nat.reduceLT]; rfl))) | ((first | apply z9 | apply za); (· rfl); (· simp only [go_sem, Nat.reduceLT]; rfl)) | (apply z8; (· simp only [go_sem, Nat.reduceEqDiff])) | (apply z5; (· simp only [go_sem, Nat.reduceEqDiff])) | (apply ze; (· kernel_rfl); (· kernel_rfl)) | (simp only [bW, if_true, Nat.reduceEqDiff, if_false])
  all_goals simp only [go_sem, Nat.reduceEqDiff, zw, Nat.reduceAdd, Nat.reduceLeDiff, List.length_map, Tryd.f26]
  all_goals first | rfl | (simp_all []; done) | (simp_all []; intros; omega)

theorem t85 (s : Span) : (lim cfg).pure 85 [encS s] = some (B (spanOK s)) := by
  refine zp (zk 85) cfn85 rfl (n := 18) rfl ?_
  simp only [bW, if_true, Nat.reduceEqDiff, if_false, zi]
  repeat' first | (intro hb; first | cases hb | skip) | ((first | apply z6 | apply zc); (· rfl); (· simp (disch := assumption) only [go_sem, Nat.reduceEqDiff, Nat.reduceAdd, zw, zd, Nat.reduceLeDiff, Nat.reduceLT, Nat.reduceMul, List.length_append, decide_eq_true_eq, encS]; rfl); (· simp only [go_sem, Nat.reduceLT, Nat.reduceEqDiff]; rfl); (· rfl); first | (apply zb; (· simp only [go_sem, Nat.reduceLT]; rfl); (· simp only [go_sem, Nat.reduceLT]; rfl)) | (apply zf; (· simp only [go_sem, Nat.reduceLT]; rfl))) | ((first | apply z9 | apply za); (· rfl); (· simp only [go_sem, Nat.reduceLT]; rfl)) | (apply z8; (· simp only [go_sem, Nat.reduceEqDiff])) | (apply z5; (· simp only [go_sem, Nat.reduceEqDiff])) | (apply ze; (· kernel_rfl); (· kernel_rfl)) | (simp only [bW, if_true, Nat.reduceEqDiff, if_false])
  all_goals simp only [go_sem, Nat.reduceEqDiff, zw, Nat.reduceAdd, Nat.reduceLeDiff, List.length_map, Tryd.f85]
  all_goals first | rfl | (simp_all [spanOK]; done) | (simp_all [spanOK]; intros; omega)

theorem t60 (a b : Span) : (lim cfg).pure 60 [encS a, encS b] = some (B (decide (b.lo ≤ a.lo) && decide (a.hi ≤ b.hi))) := by
  refine zp (zk 60) cfn60 rfl (n := 17) rfl ?_
  simp only [bW, if_true, Nat.reduceEqDiff, if_false, zi]
  repeat' first | (intro hb; first | cases hb | skip) | ((first | apply z6 | apply zc); (· rfl); (· simp (disch := assumption) only [go_sem, Nat.reduceEqDiff, Nat.reduceAdd, zw, zd, Nat.reduceLeDiff, Nat.reduceLT, Nat.reduceMul, List.length_append, decide_eq_true_eq, encS]; rfl); (· simp only [go_sem, Nat.reduceLT, Nat.reduceEqDiff]; rfl); (· rfl); first | (apply zb; (· simp only [go_sem, Nat.reduceLT]; rfl); (· simp only [go_sem, Nat.reduceLT]; rfl)) | (apply zf; (· simp only [go_sem, Nat.reduceLT]; rfl))) | ((first | apply z9 | apply za); (· rfl); (· simp only [go_sem, Nat.reduceLT]; rfl)) | (apply z8; (· simp only [go_sem, Nat.reduceEqDiff])) | (apply z5; (· simp only [go_sem, Nat.reduceEqDiff])) | (apply ze; (· kernel_rfl); (· kernel_rfl)) | (simp only [bW, if_true, Nat.reduceEqDiff, if_false])
  all_goals simp only [go_sem, Nat.reduceEqDiff, zw, Nat.reduceAdd, Nat.reduceLeDiff, List.length_map, Tryd.f60]
  all_goals first | rfl | (simp_all []; done) | (simp_all []; intros; omega)

theorem t62 : (lim cfg).pure 62 [] = some (zh example1) := pure_of (by kernel_rfl)
theorem t17 (p : Paper) (hwf : p.wf) : (lim cfg).pure 17 [zh p] = some (B (decide (p.marks.length ≤ 26) && decide (p.joins.length ≤ 26))) := by
  have hlm := len_if (f := zm) hwf.1
  have hlj := len_if (f := zj) hwf.2.1
  refine zp (zk 17) cfn17 rfl (n := 13) rfl ?_
  simp only [bW, if_true, Nat.reduceEqDiff, if_false, zi]
  repeat' first | (intro hb; first | cases hb | skip) | ((first | apply z6 | apply zc); (· rfl); (· simp (disch := assumption) only [go_sem, Nat.reduceEqDiff, Nat.reduceAdd, zw, zd, Nat.reduceLeDiff, Nat.reduceLT, Nat.reduceMul, List.length_append, decide_eq_true_eq, zh, hlm, hlj]; rfl); (· simp only [go_sem, Nat.reduceLT, Nat.reduceEqDiff]; rfl); (· rfl); first | (apply zb; (· simp only [go_sem, Nat.reduceLT]; rfl); (· simp only [go_sem, Nat.reduceLT]; rfl)) | (apply zf; (· simp only [go_sem, Nat.reduceLT]; rfl))) | ((first | apply z9 | apply za); (· rfl); (· simp only [go_sem, Nat.reduceLT]; rfl)) | (apply z8; (· simp only [go_sem, Nat.reduceEqDiff])) | (apply z5; (· simp only [go_sem, Nat.reduceEqDiff])) | (apply ze; (· kernel_rfl); (· kernel_rfl)) | (simp only [bW, if_true, Nat.reduceEqDiff, if_false])
  all_goals simp only [go_sem, Nat.reduceEqDiff, zw, Nat.reduceAdd, Nat.reduceLeDiff, List.length_map, Tryd.f17]
  all_goals first | rfl | (simp_all []; done) | (simp_all []; intros; omega)

end Go.VS
namespace Go.VS
open Go Go.Proofs
set_option maxHeartbeats 0
set_option linter.unusedSimpArgs false
abbrev Net := List (Option Chn)
def zn (o : Option Chn) : D := match o with | none => .val (.pointer none) | some c => .ptr (.agg [I c.q.n, I c.q.d, whyD c.why])
def edgeB (e : Edge) : Prop := 0 ≤ e.src ∧ e.src < 5 ∧ 0 ≤ e.dst ∧ e.dst < 5 ∧ 1 ≤ e.q.n ∧ e.q.n ≤ 2000 ∧ 1 ≤ e.q.d ∧ e.q.d ≤ 2000
def qB (m : Int) (n : Nat) (c : Chn) : Prop := 1 ≤ c.q.n ∧ c.q.n ≤ m ∧ 1 ≤ c.q.d ∧ c.q.d ≤ m ∧ c.why.length ≤ n
def netB (m : Int) (n : Nat) (l : Net) : Prop := l.length = 5 ∧ ∀ c, some c ∈ l → qB m n c
def ltR (a b : Ratio) : Bool := decide (a.n * b.d < b.n * a.d)
def putE (next : Net) (j : Nat) (c : Chn) : Net := match next[j]? with
  | some (some b) => if ltR c.q b.q then next.set j (some c) else next
  | _ => next.set j (some c)
def stepE (now : Net) (next : Net) (e : Edge) : Net := match now[e.src.toNat]? with
  | some (some c) => putE next e.dst.toNat (withC c e)
  | _ => next
theorem whyD_one (ws : List Reason) : (whyD ws).one = true := by cases ws <;> rfl
theorem encOC_one (o : Option Chn) : (zn o).one = true := by cases o <;> rfl
theorem allOne_net (l : Net) : allOne (l.map zn) = true := by
  induction l with
  | nil => rfl
  | cons o l ih => simp only [List.map_cons, allOne, encOC_one, ih]; rfl
theorem snap_whyD (g : Nat → Option Ob) (f : Nat) (ws : List Reason) : snap g (f + 1) (whyD ws) = some (whyD ws, []) := by cases ws <;> rfl
theorem flat_whyD (f : Nat) (ws : List Reason) (w : Reason) : flat (f + 1) (whyD (ws ++ [w])) = false := by cases ws <;> rfl
theorem cmp_lt (a b : Ratio) : decide (cmpR a b < 0) = ltR a b := by
  unfold cmpR cmpI ltR
  split
  · rename_i h; simp [h]
  · split <;> rename_i h <;> simp [h]

theorem deep_why (g : Nat → Option Ob) (ws : List Reason) : deepD g (whyD ws) = whyD ws := by cases ws <;> rfl
theorem deepI_why (g : Nat → Option Ob) (ws : List Reason) : deepI g (whyD ws) = [] := by cases ws <;> rfl
theorem ids_why (f : Nat) (ws : List Reason) : idsD (f + 1) (whyD ws) = some [] := by cases ws <;> rfl
theorem ren_why (ρ : Nat → Option Nat) (f : Nat) (ws : List Reason) : renD ρ (f + 1) (whyD ws) = whyD ws := by cases ws <;> rfl
theorem deep_net (g : Nat → Option Ob) (l : Net) : List.map (deepD g) (List.map zn l) = List.map zn l := by
  rw [List.map_map]; refine List.map_congr_left fun o _ => ?_
  cases o <;> rfl
theorem deepI_net (g : Nat → Option Ob) (l : Net) : catI (deepI g) (List.map zn l) = [] := by
  induction l with
  | nil => rfl
  | cons o l ih => simp only [List.map_cons, catI, ih]; cases o <;> rfl
theorem ids_net (f : Nat) (l : Net) : idsL (idsD (f + 1)) (List.map zn l) = some [] := by
  induction l with
  | nil => rfl
  | cons o l ih => simp only [List.map_cons, idsL, ih]; cases o <;> rfl
theorem ren_net (ρ : Nat → Option Nat) (f : Nat) (l : Net) : List.map (renD ρ (f + 1)) (List.map zn l) = List.map zn l := by
  rw [List.map_map]; refine List.map_congr_left fun o _ => ?_
  cases o <;> rfl

theorem low_le {n d : Int} (hn : 1 ≤ n) (hd : 1 ≤ d) : 1 ≤ (lowR n d).n ∧ (lowR n d).n ≤ n ∧ 1 ≤ (lowR n d).d ∧ (lowR n d).d ≤ d := by
  have hg := gcdI_pos (d := d) hn
  have h1 : gcdI n d ∣ n := by
    have : ((n.toNat.gcd d.toNat : Nat) : Int) ∣ (n.toNat : Int) := Int.natCast_dvd_natCast.2 (Nat.gcd_dvd_left _ _)
    rw [Int.toNat_of_nonneg (by omega)] at this; exact this
  have h2 : gcdI n d ∣ d := by
    have : ((n.toNat.gcd d.toNat : Nat) : Int) ∣ (d.toNat : Int) := Int.natCast_dvd_natCast.2 (Nat.gcd_dvd_right _ _)
    rw [Int.toNat_of_nonneg (by omega)] at this; exact this
  unfold lowR
  simp only []
  obtain ⟨a, ha⟩ := h1
  obtain ⟨b, hb⟩ := h2
  generalize gcdI n d = g at *
  have ea : n / g = a := by rw [ha, Int.mul_ediv_cancel_left _ (by omega)]
  have eb : d / g = b := by rw [hb, Int.mul_ediv_cancel_left _ (by omega)]
  rw [ea, eb]
  have ha1 : 1 ≤ a := by
    rcases Int.lt_or_le 0 a with h | h
    · omega
    · have := Int.mul_nonpos_of_nonneg_of_nonpos (show 0 ≤ g by omega) h; omega
  have hb1 : 1 ≤ b := by
    rcases Int.lt_or_le 0 b with h | h
    · omega
    · have := Int.mul_nonpos_of_nonneg_of_nonpos (show 0 ≤ g by omega) h; omega
  have h3 : 1 * a ≤ g * a := Int.mul_le_mul_of_nonneg_right hg (by omega)
  have h4 : 1 * b ≤ g * b := Int.mul_le_mul_of_nonneg_right hg (by omega)
  omega
theorem with_mul {m : Int} {n : Nat} {c : Chn} {e : Edge} (hc : qB m n c) (he : edgeB e) (hm : 1 ≤ m) : 1 ≤ c.q.n * e.q.n ∧ c.q.n * e.q.n ≤ m * 2000 ∧ 1 ≤ c.q.d * e.q.d ∧ c.q.d * e.q.d ≤ m * 2000 := by
  obtain ⟨h1, h2, h3, h4, h5⟩ := hc
  obtain ⟨_, _, _, _, e5, e6, e7, e8⟩ := he
  have k1 := Int.mul_le_mul h1 e5 (by omega) (by omega)
  have k2 := Int.mul_le_mul h2 e6 (by omega) (by omega)
  have k3 := Int.mul_le_mul h3 e7 (by omega) (by omega)
  have k4 := Int.mul_le_mul h4 e8 (by omega) (by omega)
  omega
theorem with_qB {m : Int} {n : Nat} {c : Chn} {e : Edge} (hc : qB m n c) (he : edgeB e) (hm : 1 ≤ m) : qB (m * 2000) (n + 1) (withC c e) := by
  have hl := hc.2.2.2.2
  obtain ⟨k1, k2, k3, k4⟩ := with_mul hc he hm
  obtain ⟨l1, l2, l3, l4⟩ := low_le k1 k3
  unfold qB withC
  simp only [List.length_append, List.length_cons, List.length_nil]
  omega
theorem t107' {m : Int} {n : Nat} {c : Chn} {e : Edge} (hc : qB m n c) (he : edgeB e) (hn : n ≤ 100) (hm1 : 1 ≤ m) (hm2 : m * 2000 ≤ 9223372036854775807) : (lim cfg).pure 107 [.agg [I c.q.n, I c.q.d, whyD c.why], .agg [I e.src, I e.dst, I e.q.n, I e.q.d, B e.why.join, I e.why.at_, B e.why.back]] = some (.agg [I (withC c e).q.n, I (withC c e).q.d, whyD (withC c e).why]) := by
  obtain ⟨k1, k2, k3, k4⟩ := with_mul hc he hm1
  exact t107 c e k1 (by omega) k3 (by omega) (by have := hc.2.2.2.2; omega)
theorem t75q {m : Int} {n : Nat} {a b : Chn} (ha : qB m n a) (hb : qB m n b) (hm : m ≤ 9223372036854775807) : (lim cfg).pure 75 [.agg [I a.q.n, I a.q.d], .agg [I b.q.n, I b.q.d]] = some (I (cmpR a.q b.q)) := by
  obtain ⟨h1, h2, h3, h4, _⟩ := ha
  obtain ⟨k1, k2, k3, k4, _⟩ := hb
  exact t75 _ _ _ _ ⟨by omega, by omega⟩ ⟨by omega, by omega⟩ ⟨by omega, by omega⟩ ⟨by omega, by omega⟩

theorem take_enc (j : Nat) (l : Net) : List.take j (List.map zn l) = List.map zn (List.take j l) := by rw [List.map_take]
theorem drop_enc (j : Nat) (l : Net) : List.drop j (List.map zn l) = List.map zn (List.drop j l) := by rw [List.map_drop]
theorem set_enc {j : Nat} {l : Net} {c : Chn} (h : j < l.length) : List.map zn (l.set j (some c)) = List.map zn (List.take j l) ++ .ptr (.agg [I c.q.n, I c.q.d, whyD c.why]) :: List.map zn (List.drop (j + 1) l) := by
  rw [List.set_eq_take_append_cons_drop, if_pos h, List.map_append, List.map_cons]; rfl
theorem catI_append (g : D → List Nat) (a b : List D) : catI g (a ++ b) = catI g a ++ catI g b := by
  induction a with
  | nil => rfl
  | cons d a ih => simp only [List.cons_append, catI, ih, List.append_assoc]
theorem idsL_append (f : Nat) (l : Net) (b : List D) : idsL (idsD (f + 1)) (List.map zn l ++ b) = idsL (idsD (f + 1)) b := by
  induction l with
  | nil => rfl
  | cons o l ih =>
    simp only [List.map_cons, List.cons_append, idsL, ih]
    cases o <;> cases idsL (idsD (f + 1)) b <;> rfl
theorem netB_set {m : Int} {n j : Nat} {l : Net} {c : Chn} (h : netB m n l) (hc : qB m n c) : netB m n (l.set j (some c)) := by
  refine ⟨by rw [List.length_set]; exact h.1, fun d hd => ?_⟩
  rcases List.mem_or_eq_of_mem_set hd with h' | h'
  · exact h.2 d h'
  · cases h'; exact hc

noncomputable def lp72_4 : Code := zB [1, 1, 1, 0, 1, 0, 0] (zo Tryd.f72)
theorem lk72_4 : cfg.keep 72 (zD lp72_4) = [1000000, 0, 6, 7, 20, 21] := by kernel_rfl
noncomputable def lp72_7 : Code := zB [1, 1, 1, 0, 1, 0, 0, 1, 1, 0, 0, 1, 0, 1, 0, 0] (zo Tryd.f72)
theorem lk72_7 : cfg.keep 72 (zD lp72_7) = [1000000, 0, 6, 7, 8, 20, 21, 24, 25, 26] := by kernel_rfl
noncomputable def lp72_15 : Code := zB [1, 1, 1, 0, 1, 0, 0, 1, 1, 0, 0, 1, 1, 0, 1, 0, 0] (zo Tryd.f72)
theorem lk72_15 : cfg.keep 72 (zD lp72_15) = [1000000, 0, 6, 7, 8, 20, 21, 65, 66] := by kernel_rfl

theorem L72_7 {F : Exit → St → Option D} (es : List Edge) (out now : Net) (most r m : Int) (n : Nat) (k : List Kt) (x : D) (hes : ∀ e ∈ es, edgeB e) (hlen : es.length ≤ 1000) (hm2 : m * 2000 ≤ 9223372036854775807) (hm1 : 1 ≤ m) (hn : n ≤ 100) (hnb : netB m n now) : ∀ (rest : List Edge) (i : Nat) (next : Net), es.drop i = rest → i ≤ es.length → netB (m * 2000) (n + 1) next →
    zO cfg (lim cfg) 72 F k (.exit 2) ⟨99, [(27, B false), (0, .sl false (es.map encE) 7 none), (6, .lref 0 0 5 0), (7, .lref 1 0 5 0), (8, .lref 2 0 5 0), (20, I most), (21, I r), (24, .sl false (es.map encE) 7 none), (25, I es.length), (26, I (es.length : Nat))], [(0, ⟨[.agg (out.map zn)], 5, false⟩), (1, ⟨[.agg (now.map zn)], 5, false⟩), (2, ⟨[.agg (((rest.foldl (stepE now) next)).map zn)], 5, false⟩)], 3, 0⟩ = some x →
    EvL cfg (lim cfg) 72 F lp72_7 k ⟨99, [(0, .sl false (es.map encE) 7 none), (6, .lref 0 0 5 0), (7, .lref 1 0 5 0), (8, .lref 2 0 5 0), (20, I most), (21, I r), (24, .sl false (es.map encE) 7 none), (25, I es.length), (26, I (i : Nat))], [(0, ⟨[.agg (out.map zn)], 5, false⟩), (1, ⟨[.agg (now.map zn)], 5, false⟩), (2, ⟨[.agg ((next).map zn)], 5, false⟩)], 3, 0⟩ = some x := by
  intro rest
  induction rest with
  | nil =>
    intro i next hd hi hnx h
    have hi' : i = es.length := by
      have := List.drop_eq_nil_iff.1 hd
      omega
    subst hi'
    refine zv ?_
    dsimp only [lp72_7, zB, zo, Tryd.f72]
    simp only [bW, if_true, Nat.reduceEqDiff, if_false]
    repeat' first | (intro hb; first | cases hb | skip) | ((first | apply z6 | apply zc); (· rfl); (· simp (disch := assumption) only [go_sem, Nat.reduceEqDiff, Nat.reduceAdd, zw, zd, Nat.reduceLeDiff, Nat.reduceLT, Nat.reduceMul, List.length_append, decide_eq_true_eq, Int.lt_irrefl]; rfl); (· simp only [go_sem, Nat.reduceLT, Nat.reduceEqDiff]; rfl); (· rfl); first | (apply zb; (· simp only [go_sem, Nat.reduceLT]; rfl); (· simp only [go_sem, Nat.reduceLT]; rfl)) | (apply zf; (· simp only [go_sem, Nat.reduceLT]; rfl))) | ((first | apply z9 | apply za); (· rfl); (· simp only [go_sem, Nat.reduceLT]; rfl)) | (apply z8; (· simp only [go_sem, Nat.reduceEqDiff])) | (apply z5; (· simp only [go_sem, Nat.reduceEqDiff])) | (apply ze; (· kernel_rfl); (· kernel_rfl)) | (simp only [bW, if_true, Nat.reduceEqDiff, if_false])
    exact h
  | cons e rest ih =>
    intro i next hd hi hnx h
    have hlt : i < es.length := by
      rcases Nat.lt_or_ge i es.length with h | h
      · exact h
      · rw [List.drop_eq_nil_of_le h] at hd; cases hd
    have hm : es[i]? = some e := by rw [← List.head?_drop, hd]; rfl
    have he := hes e (List.mem_of_getElem? hm)
    obtain ⟨e1, e2, e3, e4, e5, e6, e7, e8⟩ := he
    have hx : (es.map encE)[i]? = some (encE e) := by rw [List.getElem?_map, hm]; rfl
    have hlt' : (i : Int) < (es.length : Int) := by omega
    have hw3 : IntKind.i64.wrap ((i : Int) + 1) = ((i + 1 : Nat) : Int) := by rw [wrap_i64 (by omega) (by omega)]; omega
    have hs0 : (0 ≤ e.src) = True := by simp [e1]
    have hs5 : (e.src.toNat < 5) = True := by simp; omega
    have hd0 : (0 ≤ e.dst) = True := by simp [e3]
    have hd5 : (e.dst.toNat < 5) = True := by simp; omega
    have hj : e.dst.toNat < next.length := by have := hnx.1; omega
    have hjlen : (e.dst.toNat + 1 ≤ next.length) = True := by have := hnx.1; simp; omega
    obtain ⟨o, ho⟩ : ∃ o, now[e.src.toNat]? = some o := ⟨_, List.getElem?_eq_getElem (by have := hnb.1; omega)⟩
    obtain ⟨o', ho'⟩ : ∃ o, next[e.dst.toNat]? = some o := ⟨_, List.getElem?_eq_getElem (by have := hnx.1; omega)⟩
    have hnow : (now.map zn)[e.src.toNat]? = some (zn o) := by rw [List.getElem?_map, ho]; rfl
    have hnext : (next.map zn)[e.dst.toNat]? = some (zn o') := by rw [List.getElem?_map, ho']; rfl
    simp only [List.foldl_cons, stepE, ho] at h
    cases o with
    | none =>
      refine zv ?_
      dsimp only [lp72_7, zB, zo, Tryd.f72]
      simp only [bW, if_true, Nat.reduceEqDiff, if_false]
      repeat' first | (intro hb; first | cases hb | skip) | ((first | apply z6 | apply zc); (· rfl); (· simp (disch := assumption) only [go_sem, Nat.reduceEqDiff, Nat.reduceAdd, zw, zd, Nat.reduceLeDiff, Nat.reduceLT, Nat.reduceMul, List.length_append, decide_eq_true_eq, hx, hlt', hs0, hs5, hnow, zn, encE, hw3, encOC_one]; rfl); (· simp only [go_sem, Nat.reduceLT, Nat.reduceEqDiff]; rfl); (· rfl); first | (apply zb; (· simp only [go_sem, Nat.reduceLT]; rfl); (· simp only [go_sem, Nat.reduceLT]; rfl)) | (apply zf; (· simp only [go_sem, Nat.reduceLT]; rfl))) | ((first | apply z9 | apply za); (· rfl); (· simp only [go_sem, Nat.reduceLT]; rfl)) | (apply z8; (· simp only [go_sem, Nat.reduceEqDiff])) | (apply z5; (· simp only [go_sem, Nat.reduceEqDiff])) | (apply ze; (· kernel_rfl); (· kernel_rfl)) | (simp only [bW, if_true, Nat.reduceEqDiff, if_false])
      simp only [] at h
      refine zM (st1 := ⟨99, [(0, .sl false (es.map encE) 7 none), (6, .lref 0 0 5 0), (7, .lref 1 0 5 0), (8, .lref 2 0 5 0), (20, I most), (21, I r), (24, .sl false (es.map encE) 7 none), (25, I es.length), (26, I (i + 1 : Nat))], [(0, ⟨[.agg (out.map zn)], 5, false⟩), (1, ⟨[.agg (now.map zn)], 5, false⟩), (2, ⟨[.agg ((next).map zn)], 5, false⟩)], 3, 0⟩) lk72_7 (by
        simp only [go_sem, List.map_append, Nat.reduceEqDiff, Nat.reduceLT, Nat.reduceAdd, bI, bD, deep_net, deepI_net, ids_net, ren_net, deep_why, deepI_why, ids_why, ren_why]) (ih (i + 1) next (by rw [← List.drop_drop, hd]; rfl) hlt hnx h)
    | some c =>
      simp only [] at h
      have hqb := hnb.2 c (List.mem_of_getElem? ho)
      have hc' := with_qB hqb ⟨e1, e2, e3, e4, e5, e6, e7, e8⟩ hm1
      have hfl : flat 15 (whyD (withC c e).why) = false := flat_whyD 14 c.why e.why
      have h107 := t107' hqb ⟨e1, e2, e3, e4, e5, e6, e7, e8⟩ hn hm1 hm2
      generalize withC c e = c' at *
      cases o' with
      | none =>
        have hput : putE next e.dst.toNat c' = next.set e.dst.toNat (some c') := by simp only [putE, ho']
        rw [hput] at h
        refine zv ?_
        dsimp only [lp72_7, zB, zo, Tryd.f72]
        simp only [bW, if_true, Nat.reduceEqDiff, if_false]
        repeat' first | (intro hb; first | cases hb | skip) | ((first | apply z6 | apply zc); (· rfl); (· simp (disch := assumption) only [go_sem, Nat.reduceEqDiff, Nat.reduceAdd, zw, zd, Nat.reduceLeDiff, Nat.reduceLT, Nat.reduceMul, List.length_append, decide_eq_true_eq, hx, hlt', hs0, hs5, hd0, hd5, hnow, hnext, zn, encE, encOC_one, allOne_net, whyD_one, h107, cmp_lt, hw3, hfl, snap_whyD, List.length_map, hjlen]; rfl); (· simp only [go_sem, Nat.reduceLT, Nat.reduceEqDiff]; rfl); (· rfl); first | (apply zb; (· simp only [go_sem, Nat.reduceLT]; rfl); (· simp only [go_sem, Nat.reduceLT]; rfl)) | (apply zf; (· simp only [go_sem, Nat.reduceLT]; rfl))) | ((first | apply z9 | apply za); (· rfl); (· simp only [go_sem, Nat.reduceLT]; rfl)) | (apply z8; (· simp only [go_sem, Nat.reduceEqDiff])) | (apply z5; (· simp only [go_sem, Nat.reduceEqDiff])) | (apply ze; (· kernel_rfl); (· kernel_rfl)) | (simp only [bW, if_true, Nat.reduceEqDiff, if_false])
        refine zM (st1 := ⟨99, [(0, .sl false (es.map encE) 7 none), (6, .lref 0 0 5 0), (7, .lref 1 0 5 0), (8, .lref 2 0 5 0), (20, I most), (21, I r), (24, .sl false (es.map encE) 7 none), (25, I es.length), (26, I (i + 1 : Nat))], [(0, ⟨[.agg (out.map zn)], 5, false⟩), (1, ⟨[.agg (now.map zn)], 5, false⟩), (2, ⟨[.agg ((next.set e.dst.toNat (some c')).map zn)], 5, false⟩)], 3, 0⟩) lk72_7 (by
          simp only [go_sem, List.map_append, Nat.reduceEqDiff, Nat.reduceLT, Nat.reduceAdd, bI, bD, deep_net, deepI_net, ids_net, ren_net, deep_why, deepI_why, ids_why, ren_why, take_enc, drop_enc, set_enc hj, catI_append, idsL_append, sn_lref, sn_agg, sn_val, snap_whyD, List.append_assoc]) (ih (i + 1) (next.set e.dst.toNat (some c')) (by rw [← List.drop_drop, hd]; rfl) hlt (netB_set hnx hc') h)
      | some b =>
        have hqc := hnx.2 b (List.mem_of_getElem? ho')
        have h75 := t75q hc' hqc hm2
        refine zv ?_
        dsimp only [lp72_7, zB, zo, Tryd.f72]
        simp only [bW, if_true, Nat.reduceEqDiff, if_false]
        repeat' first | (intro hb; first | cases hb | skip) | ((first | apply z6 | apply zc); (· rfl); (· simp (disch := assumption) only [go_sem, Nat.reduceEqDiff, Nat.reduceAdd, zw, zd, Nat.reduceLeDiff, Nat.reduceLT, Nat.reduceMul, List.length_append, decide_eq_true_eq, hx, hlt', hs0, hs5, hd0, hd5, hnow, hnext, zn, encE, encOC_one, allOne_net, whyD_one, h107, h75, cmp_lt, hw3, hfl, snap_whyD, List.length_map, hjlen]; rfl); (· simp only [go_sem, Nat.reduceLT, Nat.reduceEqDiff]; rfl); (· rfl); first | (apply zb; (· simp only [go_sem, Nat.reduceLT]; rfl); (· simp only [go_sem, Nat.reduceLT]; rfl)) | (apply zf; (· simp only [go_sem, Nat.reduceLT]; rfl))) | ((first | apply z9 | apply za); (· rfl); (· simp only [go_sem, Nat.reduceLT]; rfl)) | (apply z8; (· simp only [go_sem, Nat.reduceEqDiff])) | (apply z5; (· simp only [go_sem, Nat.reduceEqDiff])) | (apply ze; (· kernel_rfl); (· kernel_rfl)) | (simp only [bW, if_true, Nat.reduceEqDiff, if_false])
        · simp only [putE, ho', hb, if_true] at h
          refine zM (st1 := ⟨99, [(0, .sl false (es.map encE) 7 none), (6, .lref 0 0 5 0), (7, .lref 1 0 5 0), (8, .lref 2 0 5 0), (20, I most), (21, I r), (24, .sl false (es.map encE) 7 none), (25, I es.length), (26, I (i + 1 : Nat))], [(0, ⟨[.agg (out.map zn)], 5, false⟩), (1, ⟨[.agg (now.map zn)], 5, false⟩), (2, ⟨[.agg ((next.set e.dst.toNat (some c')).map zn)], 5, false⟩)], 3, 0⟩) lk72_7 (by
            simp only [go_sem, List.map_append, Nat.reduceEqDiff, Nat.reduceLT, Nat.reduceAdd, bI, bD, deep_net, deepI_net, ids_net, ren_net, deep_why, deepI_why, ids_why, ren_why, take_enc, drop_enc, set_enc hj, catI_append, idsL_append, sn_lref, sn_agg, sn_val, snap_whyD, List.append_assoc]) (ih (i + 1) (next.set e.dst.toNat (some c')) (by rw [← List.drop_drop, hd]; rfl) hlt (netB_set hnx hc') h)
        · simp only [putE, ho', hb, Bool.false_eq_true, if_false] at h
          refine zM (st1 := ⟨99, [(0, .sl false (es.map encE) 7 none), (6, .lref 0 0 5 0), (7, .lref 1 0 5 0), (8, .lref 2 0 5 0), (20, I most), (21, I r), (24, .sl false (es.map encE) 7 none), (25, I es.length), (26, I (i + 1 : Nat))], [(0, ⟨[.agg (out.map zn)], 5, false⟩), (1, ⟨[.agg (now.map zn)], 5, false⟩), (2, ⟨[.agg ((next).map zn)], 5, false⟩)], 3, 0⟩) lk72_7 (by
            simp only [go_sem, List.map_append, Nat.reduceEqDiff, Nat.reduceLT, Nat.reduceAdd, bI, bD, deep_net, deepI_net, ids_net, ren_net, deep_why, deepI_why, ids_why, ren_why, take_enc, drop_enc, set_enc hj, catI_append, idsL_append, sn_lref, sn_agg, sn_val, snap_whyD, List.append_assoc]) (ih (i + 1) (next) (by rw [← List.drop_drop, hd]; rfl) hlt hnx h)

end Go.VS
namespace Go.VS
open Go Go.Proofs
set_option maxHeartbeats 0
set_option linter.unusedSimpArgs false
def mergeL : List (Option Chn) → Nat → Net → Net
  | [], _, out => out
  | none :: r, i, out => mergeL r (i + 1) out
  | some c :: r, i, out => mergeL r (i + 1) (putE out i c)
theorem netB_put {m : Int} {n j : Nat} {l : Net} {c : Chn} (h : netB m n l) (hc : qB m n c) : netB m n (putE l j c) := by
  unfold putE
  split
  · split
    · exact netB_set h hc
    · exact h
  · exact netB_set h hc
theorem netB_merge {m : Int} {n : Nat} : ∀ {l : List (Option Chn)} {i : Nat} {out : Net}, netB m n out → (∀ c, some c ∈ l → qB m n c) → netB m n (mergeL l i out)
  | [], _, _, h, _ => h
  | none :: r, i, out, h, hl => netB_merge (l := r) h fun c hc => hl c (List.mem_cons_of_mem _ hc)
  | some c :: r, i, out, h, hl => netB_merge (l := r) (netB_put h (hl c (by simp))) fun c hc => hl c (List.mem_cons_of_mem _ hc)

theorem L72_15 {F : Exit → St → Option D} (es : List Edge) (now next : Net) (most r m : Int) (n : Nat) (k : List Kt) (x : D) (hm2 : m ≤ 9223372036854775807) (hnb : netB m n next) : ∀ (rest : List (Option Chn)) (i : Nat) (out : Net), next.drop i = rest → i ≤ 5 → netB m n out →
    zO cfg (lim cfg) 72 F k (.exit 4) ⟨99, [(67, B false), (0, .sl false (es.map encE) 7 none), (6, .lref 0 0 5 0), (7, .lref 1 0 5 0), (8, .lref 2 0 5 0), (20, I most), (21, I r), (65, .agg (next.map zn)), (66, I (5 : Nat))], [(0, ⟨[.agg ((mergeL rest i out).map zn)], 5, false⟩), (1, ⟨[.agg (now.map zn)], 5, false⟩), (2, ⟨[.agg (next.map zn)], 5, false⟩)], 3, 0⟩ = some x →
    EvL cfg (lim cfg) 72 F lp72_15 k ⟨99, [(0, .sl false (es.map encE) 7 none), (6, .lref 0 0 5 0), (7, .lref 1 0 5 0), (8, .lref 2 0 5 0), (20, I most), (21, I r), (65, .agg (next.map zn)), (66, I (i : Nat))], [(0, ⟨[.agg ((out).map zn)], 5, false⟩), (1, ⟨[.agg (now.map zn)], 5, false⟩), (2, ⟨[.agg (next.map zn)], 5, false⟩)], 3, 0⟩ = some x := by
  intro rest
  induction rest with
  | nil =>
    intro i out hd hi hob h
    have hi' : i = 5 := by
      have := List.drop_eq_nil_iff.1 hd
      have := hnb.1
      omega
    subst hi'
    refine zv ?_
    dsimp only [lp72_15, zB, zo, Tryd.f72]
    simp only [bW, if_true, Nat.reduceEqDiff, if_false]
    repeat' first | (intro hb; first | cases hb | skip) | ((first | apply z6 | apply zc); (· rfl); (· simp (disch := assumption) only [go_sem, Nat.reduceEqDiff, Nat.reduceAdd, zw, zd, Nat.reduceLeDiff, Nat.reduceLT, Nat.reduceMul, List.length_append, decide_eq_true_eq, show (decide (((5 : Nat) : Int) < 5)) = false from rfl]; rfl); (· simp only [go_sem, Nat.reduceLT, Nat.reduceEqDiff]; rfl); (· rfl); first | (apply zb; (· simp only [go_sem, Nat.reduceLT]; rfl); (· simp only [go_sem, Nat.reduceLT]; rfl)) | (apply zf; (· simp only [go_sem, Nat.reduceLT]; rfl))) | ((first | apply z9 | apply za); (· rfl); (· simp only [go_sem, Nat.reduceLT]; rfl)) | (apply z8; (· simp only [go_sem, Nat.reduceEqDiff])) | (apply z5; (· simp only [go_sem, Nat.reduceEqDiff])) | (apply ze; (· kernel_rfl); (· kernel_rfl)) | (simp only [bW, if_true, Nat.reduceEqDiff, if_false])
    exact h
  | cons o rest ih =>
    intro i out hd hi hob h
    have hlt : i < 5 := by
      rcases Nat.lt_or_ge i next.length with h | h
      · have := hnb.1; omega
      · rw [List.drop_eq_nil_of_le h] at hd; cases hd
    have hm : next[i]? = some o := by rw [← List.head?_drop, hd]; rfl
    have hnx : (next.map zn)[i]? = some (zn o) := by rw [List.getElem?_map, hm]; rfl
    have hlt' : ((i : Int) < 5) = True := by simp; omega
    have h5 : (i < 5) = True := by simp [hlt]
    have hw3 : IntKind.i64.wrap ((i : Int) + 1) = ((i + 1 : Nat) : Int) := by rw [wrap_i64 (by omega) (by omega)]; omega
    have hj : i < out.length := by have := hob.1; omega
    have hjlen : (i + 1 ≤ out.length) = True := by simp; omega
    obtain ⟨o', ho'⟩ : ∃ o, out[i]? = some o := ⟨_, List.getElem?_eq_getElem hj⟩
    have hout : (out.map zn)[i]? = some (zn o') := by rw [List.getElem?_map, ho']; rfl
    cases o with
    | none =>
      simp only [mergeL] at h
      refine zv ?_
      dsimp only [lp72_15, zB, zo, Tryd.f72]
      simp only [bW, if_true, Nat.reduceEqDiff, if_false]
      repeat' first | (intro hb; first | cases hb | skip) | ((first | apply z6 | apply zc); (· rfl); (· simp (disch := assumption) only [go_sem, Nat.reduceEqDiff, Nat.reduceAdd, zw, zd, Nat.reduceLeDiff, Nat.reduceLT, Nat.reduceMul, List.length_append, decide_eq_true_eq, List.length_map, hlt', h5, hnx, zn, encOC_one, allOne_net, whyD_one, cmp_lt, hw3]; rfl); (· simp only [go_sem, Nat.reduceLT, Nat.reduceEqDiff]; rfl); (· rfl); first | (apply zb; (· simp only [go_sem, Nat.reduceLT]; rfl); (· simp only [go_sem, Nat.reduceLT]; rfl)) | (apply zf; (· simp only [go_sem, Nat.reduceLT]; rfl))) | ((first | apply z9 | apply za); (· rfl); (· simp only [go_sem, Nat.reduceLT]; rfl)) | (apply z8; (· simp only [go_sem, Nat.reduceEqDiff])) | (apply z5; (· simp only [go_sem, Nat.reduceEqDiff])) | (apply ze; (· kernel_rfl); (· kernel_rfl)) | (simp only [bW, if_true, Nat.reduceEqDiff, if_false])
      refine zM (st1 := ⟨99, [(0, .sl false (es.map encE) 7 none), (6, .lref 0 0 5 0), (7, .lref 1 0 5 0), (8, .lref 2 0 5 0), (20, I most), (21, I r), (65, .agg (next.map zn)), (66, I (i + 1 : Nat))], [(0, ⟨[.agg ((out).map zn)], 5, false⟩), (1, ⟨[.agg (now.map zn)], 5, false⟩), (2, ⟨[.agg (next.map zn)], 5, false⟩)], 3, 0⟩) lk72_15 (by
        simp only [go_sem, List.map_append, Nat.reduceEqDiff, Nat.reduceLT, Nat.reduceAdd, bI, bD, deep_net, deepI_net, ids_net, ren_net, deep_why, deepI_why, ids_why, ren_why, take_enc, drop_enc, catI_append, idsL_append, sn_lref, sn_agg, sn_val, snap_whyD, List.append_assoc, set_enc hj]) (ih (i + 1) (out) (by rw [← List.drop_drop, hd]; rfl) hlt hob h)
    | some c =>
      simp only [mergeL, putE, ho'] at h
      have hqb := hnb.2 c (List.mem_of_getElem? hm)
      cases o' with
      | none =>
        simp only [] at h
        refine zv ?_
        dsimp only [lp72_15, zB, zo, Tryd.f72]
        simp only [bW, if_true, Nat.reduceEqDiff, if_false]
        repeat' first | (intro hb; first | cases hb | skip) | ((first | apply z6 | apply zc); (· rfl); (· simp (disch := assumption) only [go_sem, Nat.reduceEqDiff, Nat.reduceAdd, zw, zd, Nat.reduceLeDiff, Nat.reduceLT, Nat.reduceMul, List.length_append, decide_eq_true_eq, List.length_map, hlt', h5, hnx, hout, zn, encOC_one, allOne_net, whyD_one, cmp_lt, hw3, hjlen]; rfl); (· simp only [go_sem, Nat.reduceLT, Nat.reduceEqDiff]; rfl); (· rfl); first | (apply zb; (· simp only [go_sem, Nat.reduceLT]; rfl); (· simp only [go_sem, Nat.reduceLT]; rfl)) | (apply zf; (· simp only [go_sem, Nat.reduceLT]; rfl))) | ((first | apply z9 | apply za); (· rfl); (· simp only [go_sem, Nat.reduceLT]; rfl)) | (apply z8; (· simp only [go_sem, Nat.reduceEqDiff])) | (apply z5; (· simp only [go_sem, Nat.reduceEqDiff])) | (apply ze; (· kernel_rfl); (· kernel_rfl)) | (simp only [bW, if_true, Nat.reduceEqDiff, if_false])
        refine zM (st1 := ⟨99, [(0, .sl false (es.map encE) 7 none), (6, .lref 0 0 5 0), (7, .lref 1 0 5 0), (8, .lref 2 0 5 0), (20, I most), (21, I r), (65, .agg (next.map zn)), (66, I (i + 1 : Nat))], [(0, ⟨[.agg ((out.set i (some c)).map zn)], 5, false⟩), (1, ⟨[.agg (now.map zn)], 5, false⟩), (2, ⟨[.agg (next.map zn)], 5, false⟩)], 3, 0⟩) lk72_15 (by
          simp only [go_sem, List.map_append, Nat.reduceEqDiff, Nat.reduceLT, Nat.reduceAdd, bI, bD, deep_net, deepI_net, ids_net, ren_net, deep_why, deepI_why, ids_why, ren_why, take_enc, drop_enc, catI_append, idsL_append, sn_lref, sn_agg, sn_val, snap_whyD, List.append_assoc, set_enc hj]) (ih (i + 1) (out.set i (some c)) (by rw [← List.drop_drop, hd]; rfl) hlt (netB_set hob hqb) h)
      | some b =>
        have h75 := t75q hqb (hob.2 b (List.mem_of_getElem? ho')) hm2
        refine zv ?_
        dsimp only [lp72_15, zB, zo, Tryd.f72]
        simp only [bW, if_true, Nat.reduceEqDiff, if_false]
        repeat' first | (intro hb; first | cases hb | skip) | ((first | apply z6 | apply zc); (· rfl); (· simp (disch := assumption) only [go_sem, Nat.reduceEqDiff, Nat.reduceAdd, zw, zd, Nat.reduceLeDiff, Nat.reduceLT, Nat.reduceMul, List.length_append, decide_eq_true_eq, List.length_map, hlt', h5, hnx, hout, zn, encOC_one, allOne_net, whyD_one, h75, cmp_lt, hw3, hjlen]; rfl); (· simp only [go_sem, Nat.reduceLT, Nat.reduceEqDiff]; rfl); (· rfl); first | (apply zb; (· simp only [go_sem, Nat.reduceLT]; rfl); (· simp only [go_sem, Nat.reduceLT]; rfl)) | (apply zf; (· simp only [go_sem, Nat.reduceLT]; rfl))) | ((first | apply z9 | apply za); (· rfl); (· simp only [go_sem, Nat.reduceLT]; rfl)) | (apply z8; (· simp only [go_sem, Nat.reduceEqDiff])) | (apply z5; (· simp only [go_sem, Nat.reduceEqDiff])) | (apply ze; (· kernel_rfl); (· kernel_rfl)) | (simp only [bW, if_true, Nat.reduceEqDiff, if_false])
        · simp only [hb, if_true] at h
          refine zM (st1 := ⟨99, [(0, .sl false (es.map encE) 7 none), (6, .lref 0 0 5 0), (7, .lref 1 0 5 0), (8, .lref 2 0 5 0), (20, I most), (21, I r), (65, .agg (next.map zn)), (66, I (i + 1 : Nat))], [(0, ⟨[.agg ((out.set i (some c)).map zn)], 5, false⟩), (1, ⟨[.agg (now.map zn)], 5, false⟩), (2, ⟨[.agg (next.map zn)], 5, false⟩)], 3, 0⟩) lk72_15 (by
            simp only [go_sem, List.map_append, Nat.reduceEqDiff, Nat.reduceLT, Nat.reduceAdd, bI, bD, deep_net, deepI_net, ids_net, ren_net, deep_why, deepI_why, ids_why, ren_why, take_enc, drop_enc, catI_append, idsL_append, sn_lref, sn_agg, sn_val, snap_whyD, List.append_assoc, set_enc hj]) (ih (i + 1) (out.set i (some c)) (by rw [← List.drop_drop, hd]; rfl) hlt (netB_set hob hqb) h)
        · simp only [hb, Bool.false_eq_true, if_false] at h
          refine zM (st1 := ⟨99, [(0, .sl false (es.map encE) 7 none), (6, .lref 0 0 5 0), (7, .lref 1 0 5 0), (8, .lref 2 0 5 0), (20, I most), (21, I r), (65, .agg (next.map zn)), (66, I (i + 1 : Nat))], [(0, ⟨[.agg ((out).map zn)], 5, false⟩), (1, ⟨[.agg (now.map zn)], 5, false⟩), (2, ⟨[.agg (next.map zn)], 5, false⟩)], 3, 0⟩) lk72_15 (by
            simp only [go_sem, List.map_append, Nat.reduceEqDiff, Nat.reduceLT, Nat.reduceAdd, bI, bD, deep_net, deepI_net, ids_net, ren_net, deep_why, deepI_why, ids_why, ren_why, take_enc, drop_enc, catI_append, idsL_append, sn_lref, sn_agg, sn_val, snap_whyD, List.append_assoc, set_enc hj]) (ih (i + 1) (out) (by rw [← List.drop_drop, hd]; rfl) hlt hob h)

def zV : Net := [none, none, none, none, none]
def roundsN (es : List Edge) : Nat → Net → Net → Net
  | 0, _, out => out
  | j + 1, now, out => roundsN es j (es.foldl (stepE now) zV) (mergeL (es.foldl (stepE now) zV) 0 out)
def zN (es : List Edge) (src most : Nat) : Net := roundsN es most (zV.set src (some ⟨⟨1, 1⟩, []⟩)) zV
theorem netB_mono {m m' : Int} {n n' : Nat} {l : Net} (h : netB m n l) (hm : m ≤ m') (hn : n ≤ n') : netB m' n' l := by
  refine ⟨h.1, fun c hc => ?_⟩
  obtain ⟨a, b, c, d, e⟩ := h.2 c hc
  exact ⟨a, by omega, c, by omega, by omega⟩
theorem netB_step {m : Int} {n : Nat} {now next : Net} {e : Edge} (hn : netB m n now) (he : edgeB e) (hm : 1 ≤ m) (h : netB (m * 2000) (n + 1) next) : netB (m * 2000) (n + 1) (stepE now next e) := by
  unfold stepE
  split
  · rename_i c hc
    exact netB_put h (with_qB (hn.2 c (List.mem_of_getElem? hc)) he hm)
  · exact h
theorem netB_fold {m : Int} {n : Nat} {now : Net} (hn : netB m n now) (hm : 1 ≤ m) : ∀ {es : List Edge} {next : Net}, (∀ e ∈ es, edgeB e) → netB (m * 2000) (n + 1) next → netB (m * 2000) (n + 1) (es.foldl (stepE now) next)
  | [], _, _, h => h
  | e :: es, next, he, h => netB_fold hn hm (es := es) (fun e' h' => he e' (List.mem_cons_of_mem _ h')) (netB_step hn (he e (by simp)) hm h)
theorem zT (m : Int) (n : Nat) : netB m n zV := ⟨rfl, fun c hc => by simp [zV] at hc⟩

theorem L72_4 {F : Exit → St → Option D} (es : List Edge) (most : Nat) (k : List Kt) (x : D) (hes : ∀ e ∈ es, edgeB e) (hlen : es.length ≤ 1000) (hmost : most ≤ 5) : ∀ (j r : Nat) (now out : Net), r + j = most → netB (2000 ^ r) r now → netB 32000000000000000 5 out →
    (∀ now' : Net, zO cfg (lim cfg) 72 F k (.exit 0) ⟨99, [(22, B false), (0, .sl false (es.map encE) 7 none), (6, .lref 0 0 5 0), (7, .lref 1 0 5 0), (20, I (most : Nat)), (21, I (most : Nat))], [(0, ⟨[.agg ((roundsN es j now out).map zn)], 5, false⟩), (1, ⟨[.agg ((now').map zn)], 5, false⟩)], 2, 0⟩ = some x) →
    EvL cfg (lim cfg) 72 F lp72_4 k ⟨99, [(0, .sl false (es.map encE) 7 none), (6, .lref 0 0 5 0), (7, .lref 1 0 5 0), (20, I (most : Nat)), (21, I (r : Nat))], [(0, ⟨[.agg ((out).map zn)], 5, false⟩), (1, ⟨[.agg ((now).map zn)], 5, false⟩)], 2, 0⟩ = some x := by
  intro j
  induction j with
  | zero =>
    intro r now out hr hnb hob h
    obtain rfl : r = most := by omega
    refine zv ?_
    dsimp only [lp72_4, zB, zo, Tryd.f72]
    simp only [bW, if_true, Nat.reduceEqDiff, if_false]
    repeat' first | (intro hb; first | cases hb | skip) | ((first | apply z6 | apply zc); (· rfl); (· simp (disch := assumption) only [go_sem, Nat.reduceEqDiff, Nat.reduceAdd, zw, zd, Nat.reduceLeDiff, Nat.reduceLT, Nat.reduceMul, List.length_append, decide_eq_true_eq, Int.lt_irrefl]; rfl); (· simp only [go_sem, Nat.reduceLT, Nat.reduceEqDiff]; rfl); (· rfl); first | (apply zb; (· simp only [go_sem, Nat.reduceLT]; rfl); (· simp only [go_sem, Nat.reduceLT]; rfl)) | (apply zf; (· simp only [go_sem, Nat.reduceLT]; rfl))) | ((first | apply z9 | apply za); (· rfl); (· simp only [go_sem, Nat.reduceLT]; rfl)) | (apply z8; (· simp only [go_sem, Nat.reduceEqDiff])) | (apply z5; (· simp only [go_sem, Nat.reduceEqDiff])) | (apply ze; (· kernel_rfl); (· kernel_rfl)) | (simp only [bW, if_true, Nat.reduceEqDiff, if_false])
    exact h now
  | succ j ih =>
    intro r now out hr hnb hob h
    have hlt' : ((r : Int) < (most : Int)) = True := by simp; omega
    have hw3 : IntKind.i64.wrap ((r : Int) + 1) = ((r + 1 : Nat) : Int) := by rw [wrap_i64 (by omega) (by omega)]; omega
    have hp1 : (1 : Int) ≤ 2000 ^ r := Int.pow_pos (by omega)
    have hp2 : (2000 : Int) ^ r * 2000 ≤ 32000000000000000 := by
      have : r ≤ 4 := by omega
      rcases r with _ | _ | _ | _ | _ | r <;> first | omega | decide
    have hnx := netB_fold hnb hp1 hes (zT (2000 ^ r * 2000) (r + 1))
    simp only [roundsN] at h
    refine zv ?_
    dsimp only [lp72_4, zB, zo, Tryd.f72]
    simp only [bW, if_true, Nat.reduceEqDiff, if_false]
    repeat' first | (intro hb; first | cases hb | skip) | ((first | apply z6 | apply zc); (· rfl); (· simp (disch := assumption) only [go_sem, Nat.reduceEqDiff, Nat.reduceAdd, zw, zd, Nat.reduceLeDiff, Nat.reduceLT, Nat.reduceMul, List.length_append, decide_eq_true_eq, hlt', List.length_map]; rfl); (· simp only [go_sem, Nat.reduceLT, Nat.reduceEqDiff]; rfl); (· rfl); first | (apply zb; (· simp only [go_sem, Nat.reduceLT]; rfl); (· simp only [go_sem, Nat.reduceLT]; rfl)) | (apply zf; (· simp only [go_sem, Nat.reduceLT]; rfl))) | ((first | apply z9 | apply za); (· rfl); (· simp only [go_sem, Nat.reduceLT]; rfl)) | (apply z8; (· simp only [go_sem, Nat.reduceEqDiff])) | (apply z5; (· simp only [go_sem, Nat.reduceEqDiff])) | (apply ze; (· kernel_rfl); (· kernel_rfl)) | (simp only [bW, if_true, Nat.reduceEqDiff, if_false])
    refine w_loop (st1 := ⟨99, [(0, .sl false (es.map encE) 7 none), (6, .lref 0 0 5 0), (7, .lref 1 0 5 0), (8, .lref 2 0 5 0), (20, I (most : Nat)), (21, I (r : Nat)), (24, .sl false (es.map encE) 7 none), (25, I es.length), (26, I (0 : Nat))], [(0, ⟨[.agg (out.map zn)], 5, false⟩), (1, ⟨[.agg (now.map zn)], 5, false⟩), (2, ⟨[.agg (zV.map zn)], 5, false⟩)], 3, 0⟩) lk72_7 (by
      simp only [go_sem, List.map_append, Nat.reduceEqDiff, Nat.reduceLT, Nat.reduceAdd, bI, bD, deep_net, deepI_net, ids_net, ren_net, deep_why, deepI_why, ids_why, ren_why, take_enc, drop_enc, catI_append, idsL_append, sn_lref, sn_agg, sn_val, snap_whyD, List.append_assoc]
      rfl) (L72_7 es out now most r (2000 ^ r) r _ _ hes hlen (by omega) hp1 (by omega) hnb es 0 zV rfl (Nat.zero_le _) (zT _ _) ?_)
    generalize es.foldl (stepE now) zV = next at *
    have hl5 : (5 ≤ next.length) = True := by have := hnx.1; simp; omega
    have hn5 : next.length = 5 := hnx.1
    have hn5' : now.length = 5 := hnb.1
    have hdn : List.drop 5 (List.map zn now) = [] := by rw [List.drop_eq_nil_of_le]; simp [hnb.1]
    have ht5 : List.take 5 (List.map zn next) = List.map zn next := by rw [List.take_of_length_le]; simp [hnx.1]
    simp only [bW, if_true, Nat.reduceEqDiff, if_false]
    repeat' first | (intro hb; first | cases hb | skip) | ((first | apply z6 | apply zc); (· rfl); (· simp (disch := assumption) only [go_sem, Nat.reduceEqDiff, Nat.reduceAdd, zw, zd, Nat.reduceLeDiff, Nat.reduceLT, Nat.reduceMul, List.length_append, decide_eq_true_eq, hl5, ht5, List.length_map]; rfl); (· simp only [go_sem, Nat.reduceLT, Nat.reduceEqDiff]; rfl); (· rfl); first | (apply zb; (· simp only [go_sem, Nat.reduceLT]; rfl); (· simp only [go_sem, Nat.reduceLT]; rfl)) | (apply zf; (· simp only [go_sem, Nat.reduceLT]; rfl))) | ((first | apply z9 | apply za); (· rfl); (· simp only [go_sem, Nat.reduceLT]; rfl)) | (apply z8; (· simp only [go_sem, Nat.reduceEqDiff])) | (apply z5; (· simp only [go_sem, Nat.reduceEqDiff])) | (apply ze; (· kernel_rfl); (· kernel_rfl)) | (simp only [bW, if_true, Nat.reduceEqDiff, if_false])
    refine w_loop (st1 := ⟨99, [(0, .sl false (es.map encE) 7 none), (6, .lref 0 0 5 0), (7, .lref 1 0 5 0), (8, .lref 2 0 5 0), (20, I (most : Nat)), (21, I (r : Nat)), (65, .agg (next.map zn)), (66, I (0 : Nat))], [(0, ⟨[.agg ((out).map zn)], 5, false⟩), (1, ⟨[.agg (now.map zn)], 5, false⟩), (2, ⟨[.agg (next.map zn)], 5, false⟩)], 3, 0⟩) lk72_15 (by
      simp only [go_sem, List.map_append, Nat.reduceEqDiff, Nat.reduceLT, Nat.reduceAdd, bI, bD, deep_net, deepI_net, ids_net, ren_net, deep_why, deepI_why, ids_why, ren_why, take_enc, drop_enc, catI_append, idsL_append, sn_lref, sn_agg, sn_val, snap_whyD, List.append_assoc]
      rfl) (L72_15 es now next most r 32000000000000000 5 _ _ (by omega) (netB_mono hnx hp2 (by omega)) next 0 out rfl (Nat.zero_le _) hob ?_)
    have hob2 := netB_merge (l := next) (i := 0) hob (netB_mono hnx hp2 (by omega)).2
    simp only [bW, if_true, Nat.reduceEqDiff, if_false]
    repeat' first | (intro hb; first | cases hb | skip) | ((first | apply z6 | apply zc); (· rfl); (· simp (disch := assumption) only [go_sem, Nat.reduceEqDiff, Nat.reduceAdd, zw, zd, Nat.reduceLeDiff, Nat.reduceLT, Nat.reduceMul, List.length_append, decide_eq_true_eq, hn5, hn5', ht5, hdn, List.length_map, hw3, allOne_net, List.take_zero]; rfl); (· simp only [go_sem, Nat.reduceLT, Nat.reduceEqDiff]; rfl); (· rfl); first | (apply zb; (· simp only [go_sem, Nat.reduceLT]; rfl); (· simp only [go_sem, Nat.reduceLT]; rfl)) | (apply zf; (· simp only [go_sem, Nat.reduceLT]; rfl))) | ((first | apply z9 | apply za); (· rfl); (· simp only [go_sem, Nat.reduceLT]; rfl)) | (apply z8; (· simp only [go_sem, Nat.reduceEqDiff])) | (apply z5; (· simp only [go_sem, Nat.reduceEqDiff])) | (apply ze; (· kernel_rfl); (· kernel_rfl)) | (simp only [bW, if_true, Nat.reduceEqDiff, if_false])
    refine zM (st1 := ⟨99, [(0, .sl false (es.map encE) 7 none), (6, .lref 0 0 5 0), (7, .lref 1 0 5 0), (20, I (most : Nat)), (21, I (r + 1 : Nat))], [(0, ⟨[.agg ((mergeL next 0 out).map zn)], 5, false⟩), (1, ⟨[.agg ((next).map zn)], 5, false⟩)], 2, 0⟩) lk72_4 (by
      simp only [go_sem, List.map_append, Nat.reduceEqDiff, Nat.reduceLT, Nat.reduceAdd, bI, bD, deep_net, deepI_net, ids_net, ren_net, deep_why, deepI_why, ids_why, ren_why, take_enc, drop_enc, catI_append, idsL_append, sn_lref, sn_agg, sn_val, snap_whyD, List.append_assoc]) (ih (r + 1) next (mergeL next 0 out) (by omega) (by rw [Int.pow_succ]; exact hnx) hob2 h)
theorem snap_net (g : Nat → Option Ob) (f : Nat) (l : Net) : snapAll (snap g (f + 1)) (List.map zn l) = some (List.map zn l, []) := by
  induction l with
  | nil => rfl
  | cons o l ih => simp only [List.map_cons, snapAll, ih]; cases o <;> rfl
theorem rounds_netB {es : List Edge} (hes : ∀ e ∈ es, edgeB e) : ∀ (j r : Nat) {now out : Net}, r + j ≤ 5 → netB (2000 ^ r) r now → netB 32000000000000000 5 out → netB 32000000000000000 5 (roundsN es j now out)
  | 0, _, _, _, _, _, h => h
  | j + 1, r, now, out, hr, hn, ho => by
    have hp1 : (1 : Int) ≤ 2000 ^ r := Int.pow_pos (by omega)
    have hp2 : (2000 : Int) ^ r * 2000 ≤ 32000000000000000 := by
      have : r ≤ 4 := by omega
      rcases r with _ | _ | _ | _ | _ | r <;> first | omega | decide
    have hnx := netB_fold hn hp1 hes (zT (2000 ^ r * 2000) (r + 1))
    have hob2 := netB_merge (l := es.foldl (stepE now) zV) (i := 0) ho (netB_mono hnx hp2 (by omega)).2
    simp only [roundsN]
    exact rounds_netB hes j (r + 1) (by omega) (by rw [Int.pow_succ]; exact hnx) hob2
theorem roundsN_len {es : List Edge} (hes : ∀ e ∈ es, edgeB e) {j : Nat} {now out : Net} (hj : j ≤ 5) (hn : netB 1 0 now) (ho : netB 32000000000000000 5 out) : (roundsN es j now out).length = 5 :=
  (rounds_netB hes j 0 (by omega) hn ho).1
theorem cfg_glob0 : cfg.glob 0 = some (.agg [I 1, I 1]) := rfl

theorem t72_0 (es : List Edge) (most : Nat) (hes : ∀ e ∈ es, edgeB e) (hlen : es.length ≤ 1000) (hmost : most ≤ 5) : (lim cfg).pure 72 [.sl false (es.map encE) 7 none, I 0, I most] = some (.agg ((zN es 0 most).map zn)) := by
  obtain ⟨c, hc⟩ : ∃ c, zN es 0 most = c := ⟨_, rfl⟩
  rw [hc]
  unfold zN at hc
  refine zp (zk 72) cfn72 rfl (n := 99) rfl ?_
  generalize hF : finP cfg Tryd.f72 = F
  simp only [bW, if_true, Nat.reduceEqDiff, if_false, zi]
  repeat' first | (intro hb; first | cases hb | skip) | ((first | apply z6 | apply zc); (· rfl); (· simp (disch := assumption) only [go_sem, Nat.reduceEqDiff, Nat.reduceAdd, zw, zd, Nat.reduceLeDiff, Nat.reduceLT, Nat.reduceMul, List.length_append, decide_eq_true_eq, cfg_glob0, Int.reduceToNat, Int.reduceLE, List.drop_zero]; rfl); (· simp only [go_sem, Nat.reduceLT, Nat.reduceEqDiff]; rfl); (· rfl); first | (apply zb; (· simp only [go_sem, Nat.reduceLT]; rfl); (· simp only [go_sem, Nat.reduceLT]; rfl)) | (apply zf; (· simp only [go_sem, Nat.reduceLT]; rfl))) | ((first | apply z9 | apply za); (· rfl); (· simp only [go_sem, Nat.reduceLT]; rfl)) | (apply z8; (· simp only [go_sem, Nat.reduceEqDiff])) | (apply z5; (· simp only [go_sem, Nat.reduceEqDiff])) | (apply ze; (· kernel_rfl); (· kernel_rfl)) | (simp only [bW, if_true, Nat.reduceEqDiff, if_false])
  refine w_loop (st1 := ⟨99, [(0, .sl false (es.map encE) 7 none), (6, .lref 0 0 5 0), (7, .lref 1 0 5 0), (20, I (most : Nat)), (21, I (0 : Nat))], [(0, ⟨[.agg ((zV).map zn)], 5, false⟩), (1, ⟨[.agg ((zV.set 0 (some ⟨⟨1, 1⟩, []⟩)).map zn)], 5, false⟩)], 2, 0⟩) lk72_4 (by kernel_rfl) (L72_4 es most _ _ hes hlen hmost most 0 _ zV (by omega) (netB_set (zT _ _) (by simp [qB])) (zT _ _) (fun now' => ?_))
  rw [hc]
  have hl5 : c.length = 5 := by rw [← hc]; exact roundsN_len hes (by omega) (netB_set (zT 1 0) (by simp [qB])) (zT _ _)
  have ht5 : List.take 5 (List.map zn c) = List.map zn c := by rw [List.take_of_length_le]; simp [hl5]
  have hd5 : List.drop 5 (List.map zn c) = [] := by rw [List.drop_eq_nil_of_le]; simp [hl5]
  simp only [bW, if_true, Nat.reduceEqDiff, if_false]
  repeat' first | (intro hb; first | cases hb | skip) | ((first | apply z6 | apply zc); (· rfl); (· simp (disch := assumption) only [go_sem, Nat.reduceEqDiff, Nat.reduceAdd, zw, zd, Nat.reduceLeDiff, Nat.reduceLT, Nat.reduceMul, List.length_append, decide_eq_true_eq, hl5, ht5, hd5, List.length_map, allOne_net, List.take_zero]; rfl); (· simp only [go_sem, Nat.reduceLT, Nat.reduceEqDiff]; rfl); (· rfl); first | (apply zb; (· simp only [go_sem, Nat.reduceLT]; rfl); (· simp only [go_sem, Nat.reduceLT]; rfl)) | (apply zf; (· simp only [go_sem, Nat.reduceLT]; rfl))) | ((first | apply z9 | apply za); (· rfl); (· simp only [go_sem, Nat.reduceLT]; rfl)) | (apply z8; (· simp only [go_sem, Nat.reduceEqDiff])) | (apply z5; (· simp only [go_sem, Nat.reduceEqDiff])) | (apply ze; (· kernel_rfl); (· kernel_rfl)) | (simp only [bW, if_true, Nat.reduceEqDiff, if_false])
  subst hF
  all_goals simp only [go_sem, Nat.reduceEqDiff, zw, Nat.reduceAdd, Nat.reduceLeDiff, List.length_map, Tryd.f72, snap_net, ht5, hl5]

theorem t72_1 (es : List Edge) (most : Nat) (hes : ∀ e ∈ es, edgeB e) (hlen : es.length ≤ 1000) (hmost : most ≤ 5) : (lim cfg).pure 72 [.sl false (es.map encE) 7 none, I 1, I most] = some (.agg ((zN es 1 most).map zn)) := by
  obtain ⟨c, hc⟩ : ∃ c, zN es 1 most = c := ⟨_, rfl⟩
  rw [hc]
  unfold zN at hc
  refine zp (zk 72) cfn72 rfl (n := 99) rfl ?_
  generalize hF : finP cfg Tryd.f72 = F
  simp only [bW, if_true, Nat.reduceEqDiff, if_false, zi]
  repeat' first | (intro hb; first | cases hb | skip) | ((first | apply z6 | apply zc); (· rfl); (· simp (disch := assumption) only [go_sem, Nat.reduceEqDiff, Nat.reduceAdd, zw, zd, Nat.reduceLeDiff, Nat.reduceLT, Nat.reduceMul, List.length_append, decide_eq_true_eq, cfg_glob0, Int.reduceToNat, Int.reduceLE, List.drop_zero]; rfl); (· simp only [go_sem, Nat.reduceLT, Nat.reduceEqDiff]; rfl); (· rfl); first | (apply zb; (· simp only [go_sem, Nat.reduceLT]; rfl); (· simp only [go_sem, Nat.reduceLT]; rfl)) | (apply zf; (· simp only [go_sem, Nat.reduceLT]; rfl))) | ((first | apply z9 | apply za); (· rfl); (· simp only [go_sem, Nat.reduceLT]; rfl)) | (apply z8; (· simp only [go_sem, Nat.reduceEqDiff])) | (apply z5; (· simp only [go_sem, Nat.reduceEqDiff])) | (apply ze; (· kernel_rfl); (· kernel_rfl)) | (simp only [bW, if_true, Nat.reduceEqDiff, if_false])
  refine w_loop (st1 := ⟨99, [(0, .sl false (es.map encE) 7 none), (6, .lref 0 0 5 0), (7, .lref 1 0 5 0), (20, I (most : Nat)), (21, I (0 : Nat))], [(0, ⟨[.agg ((zV).map zn)], 5, false⟩), (1, ⟨[.agg ((zV.set 1 (some ⟨⟨1, 1⟩, []⟩)).map zn)], 5, false⟩)], 2, 0⟩) lk72_4 (by kernel_rfl) (L72_4 es most _ _ hes hlen hmost most 0 _ zV (by omega) (netB_set (zT _ _) (by simp [qB])) (zT _ _) (fun now' => ?_))
  rw [hc]
  have hl5 : c.length = 5 := by rw [← hc]; exact roundsN_len hes (by omega) (netB_set (zT 1 0) (by simp [qB])) (zT _ _)
  have ht5 : List.take 5 (List.map zn c) = List.map zn c := by rw [List.take_of_length_le]; simp [hl5]
  have hd5 : List.drop 5 (List.map zn c) = [] := by rw [List.drop_eq_nil_of_le]; simp [hl5]
  simp only [bW, if_true, Nat.reduceEqDiff, if_false]
  repeat' first | (intro hb; first | cases hb | skip) | ((first | apply z6 | apply zc); (· rfl); (· simp (disch := assumption) only [go_sem, Nat.reduceEqDiff, Nat.reduceAdd, zw, zd, Nat.reduceLeDiff, Nat.reduceLT, Nat.reduceMul, List.length_append, decide_eq_true_eq, hl5, ht5, hd5, List.length_map, allOne_net, List.take_zero]; rfl); (· simp only [go_sem, Nat.reduceLT, Nat.reduceEqDiff]; rfl); (· rfl); first | (apply zb; (· simp only [go_sem, Nat.reduceLT]; rfl); (· simp only [go_sem, Nat.reduceLT]; rfl)) | (apply zf; (· simp only [go_sem, Nat.reduceLT]; rfl))) | ((first | apply z9 | apply za); (· rfl); (· simp only [go_sem, Nat.reduceLT]; rfl)) | (apply z8; (· simp only [go_sem, Nat.reduceEqDiff])) | (apply z5; (· simp only [go_sem, Nat.reduceEqDiff])) | (apply ze; (· kernel_rfl); (· kernel_rfl)) | (simp only [bW, if_true, Nat.reduceEqDiff, if_false])
  subst hF
  all_goals simp only [go_sem, Nat.reduceEqDiff, zw, Nat.reduceAdd, Nat.reduceLeDiff, List.length_map, Tryd.f72, snap_net, ht5, hl5]

theorem t72_2 (es : List Edge) (most : Nat) (hes : ∀ e ∈ es, edgeB e) (hlen : es.length ≤ 1000) (hmost : most ≤ 5) : (lim cfg).pure 72 [.sl false (es.map encE) 7 none, I 2, I most] = some (.agg ((zN es 2 most).map zn)) := by
  obtain ⟨c, hc⟩ : ∃ c, zN es 2 most = c := ⟨_, rfl⟩
  rw [hc]
  unfold zN at hc
  refine zp (zk 72) cfn72 rfl (n := 99) rfl ?_
  generalize hF : finP cfg Tryd.f72 = F
  simp only [bW, if_true, Nat.reduceEqDiff, if_false, zi]
  repeat' first | (intro hb; first | cases hb | skip) | ((first | apply z6 | apply zc); (· rfl); (· simp (disch := assumption) only [go_sem, Nat.reduceEqDiff, Nat.reduceAdd, zw, zd, Nat.reduceLeDiff, Nat.reduceLT, Nat.reduceMul, List.length_append, decide_eq_true_eq, cfg_glob0, Int.reduceToNat, Int.reduceLE, List.drop_zero]; rfl); (· simp only [go_sem, Nat.reduceLT, Nat.reduceEqDiff]; rfl); (· rfl); first | (apply zb; (· simp only [go_sem, Nat.reduceLT]; rfl); (· simp only [go_sem, Nat.reduceLT]; rfl)) | (apply zf; (· simp only [go_sem, Nat.reduceLT]; rfl))) | ((first | apply z9 | apply za); (· rfl); (· simp only [go_sem, Nat.reduceLT]; rfl)) | (apply z8; (· simp only [go_sem, Nat.reduceEqDiff])) | (apply z5; (· simp only [go_sem, Nat.reduceEqDiff])) | (apply ze; (· kernel_rfl); (· kernel_rfl)) | (simp only [bW, if_true, Nat.reduceEqDiff, if_false])
  refine w_loop (st1 := ⟨99, [(0, .sl false (es.map encE) 7 none), (6, .lref 0 0 5 0), (7, .lref 1 0 5 0), (20, I (most : Nat)), (21, I (0 : Nat))], [(0, ⟨[.agg ((zV).map zn)], 5, false⟩), (1, ⟨[.agg ((zV.set 2 (some ⟨⟨1, 1⟩, []⟩)).map zn)], 5, false⟩)], 2, 0⟩) lk72_4 (by kernel_rfl) (L72_4 es most _ _ hes hlen hmost most 0 _ zV (by omega) (netB_set (zT _ _) (by simp [qB])) (zT _ _) (fun now' => ?_))
  rw [hc]
  have hl5 : c.length = 5 := by rw [← hc]; exact roundsN_len hes (by omega) (netB_set (zT 1 0) (by simp [qB])) (zT _ _)
  have ht5 : List.take 5 (List.map zn c) = List.map zn c := by rw [List.take_of_length_le]; simp [hl5]
  have hd5 : List.drop 5 (List.map zn c) = [] := by rw [List.drop_eq_nil_of_le]; simp [hl5]
  simp only [bW, if_true, Nat.reduceEqDiff, if_false]
  repeat' first | (intro hb; first | cases hb | skip) | ((first | apply z6 | apply zc); (· rfl); (· simp (disch := assumption) only [go_sem, Nat.reduceEqDiff, Nat.reduceAdd, zw, zd, Nat.reduceLeDiff, Nat.reduceLT, Nat.reduceMul, List.length_append, decide_eq_true_eq, hl5, ht5, hd5, List.length_map, allOne_net, List.take_zero]; rfl); (· simp only [go_sem, Nat.reduceLT, Nat.reduceEqDiff]; rfl); (· rfl); first | (apply zb; (· simp only [go_sem, Nat.reduceLT]; rfl); (· simp only [go_sem, Nat.reduceLT]; rfl)) | (apply zf; (· simp only [go_sem, Nat.reduceLT]; rfl))) | ((first | apply z9 | apply za); (· rfl); (· simp only [go_sem, Nat.reduceLT]; rfl)) | (apply z8; (· simp only [go_sem, Nat.reduceEqDiff])) | (apply z5; (· simp only [go_sem, Nat.reduceEqDiff])) | (apply ze; (· kernel_rfl); (· kernel_rfl)) | (simp only [bW, if_true, Nat.reduceEqDiff, if_false])
  subst hF
  all_goals simp only [go_sem, Nat.reduceEqDiff, zw, Nat.reduceAdd, Nat.reduceLeDiff, List.length_map, Tryd.f72, snap_net, ht5, hl5]

theorem t72_3 (es : List Edge) (most : Nat) (hes : ∀ e ∈ es, edgeB e) (hlen : es.length ≤ 1000) (hmost : most ≤ 5) : (lim cfg).pure 72 [.sl false (es.map encE) 7 none, I 3, I most] = some (.agg ((zN es 3 most).map zn)) := by
  obtain ⟨c, hc⟩ : ∃ c, zN es 3 most = c := ⟨_, rfl⟩
  rw [hc]
  unfold zN at hc
  refine zp (zk 72) cfn72 rfl (n := 99) rfl ?_
  generalize hF : finP cfg Tryd.f72 = F
  simp only [bW, if_true, Nat.reduceEqDiff, if_false, zi]
  repeat' first | (intro hb; first | cases hb | skip) | ((first | apply z6 | apply zc); (· rfl); (· simp (disch := assumption) only [go_sem, Nat.reduceEqDiff, Nat.reduceAdd, zw, zd, Nat.reduceLeDiff, Nat.reduceLT, Nat.reduceMul, List.length_append, decide_eq_true_eq, cfg_glob0, Int.reduceToNat, Int.reduceLE, List.drop_zero]; rfl); (· simp only [go_sem, Nat.reduceLT, Nat.reduceEqDiff]; rfl); (· rfl); first | (apply zb; (· simp only [go_sem, Nat.reduceLT]; rfl); (· simp only [go_sem, Nat.reduceLT]; rfl)) | (apply zf; (· simp only [go_sem, Nat.reduceLT]; rfl))) | ((first | apply z9 | apply za); (· rfl); (· simp only [go_sem, Nat.reduceLT]; rfl)) | (apply z8; (· simp only [go_sem, Nat.reduceEqDiff])) | (apply z5; (· simp only [go_sem, Nat.reduceEqDiff])) | (apply ze; (· kernel_rfl); (· kernel_rfl)) | (simp only [bW, if_true, Nat.reduceEqDiff, if_false])
  refine w_loop (st1 := ⟨99, [(0, .sl false (es.map encE) 7 none), (6, .lref 0 0 5 0), (7, .lref 1 0 5 0), (20, I (most : Nat)), (21, I (0 : Nat))], [(0, ⟨[.agg ((zV).map zn)], 5, false⟩), (1, ⟨[.agg ((zV.set 3 (some ⟨⟨1, 1⟩, []⟩)).map zn)], 5, false⟩)], 2, 0⟩) lk72_4 (by kernel_rfl) (L72_4 es most _ _ hes hlen hmost most 0 _ zV (by omega) (netB_set (zT _ _) (by simp [qB])) (zT _ _) (fun now' => ?_))
  rw [hc]
  have hl5 : c.length = 5 := by rw [← hc]; exact roundsN_len hes (by omega) (netB_set (zT 1 0) (by simp [qB])) (zT _ _)
  have ht5 : List.take 5 (List.map zn c) = List.map zn c := by rw [List.take_of_length_le]; simp [hl5]
  have hd5 : List.drop 5 (List.map zn c) = [] := by rw [List.drop_eq_nil_of_le]; simp [hl5]
  simp only [bW, if_true, Nat.reduceEqDiff, if_false]
  repeat' first | (intro hb; first | cases hb | skip) | ((first | apply z6 | apply zc); (· rfl); (· simp (disch := assumption) only [go_sem, Nat.reduceEqDiff, Nat.reduceAdd, zw, zd, Nat.reduceLeDiff, Nat.reduceLT, Nat.reduceMul, List.length_append, decide_eq_true_eq, hl5, ht5, hd5, List.length_map, allOne_net, List.take_zero]; rfl); (· simp only [go_sem, Nat.reduceLT, Nat.reduceEqDiff]; rfl); (· rfl); first | (apply zb; (· simp only [go_sem, Nat.reduceLT]; rfl); (· simp only [go_sem, Nat.reduceLT]; rfl)) | (apply zf; (· simp only [go_sem, Nat.reduceLT]; rfl))) | ((first | apply z9 | apply za); (· rfl); (· simp only [go_sem, Nat.reduceLT]; rfl)) | (apply z8; (· simp only [go_sem, Nat.reduceEqDiff])) | (apply z5; (· simp only [go_sem, Nat.reduceEqDiff])) | (apply ze; (· kernel_rfl); (· kernel_rfl)) | (simp only [bW, if_true, Nat.reduceEqDiff, if_false])
  subst hF
  all_goals simp only [go_sem, Nat.reduceEqDiff, zw, Nat.reduceAdd, Nat.reduceLeDiff, List.length_map, Tryd.f72, snap_net, ht5, hl5]

theorem t72_4 (es : List Edge) (most : Nat) (hes : ∀ e ∈ es, edgeB e) (hlen : es.length ≤ 1000) (hmost : most ≤ 5) : (lim cfg).pure 72 [.sl false (es.map encE) 7 none, I 4, I most] = some (.agg ((zN es 4 most).map zn)) := by
  obtain ⟨c, hc⟩ : ∃ c, zN es 4 most = c := ⟨_, rfl⟩
  rw [hc]
  unfold zN at hc
  refine zp (zk 72) cfn72 rfl (n := 99) rfl ?_
  generalize hF : finP cfg Tryd.f72 = F
  simp only [bW, if_true, Nat.reduceEqDiff, if_false, zi]
  repeat' first | (intro hb; first | cases hb | skip) | ((first | apply z6 | apply zc); (· rfl); (· simp (disch := assumption) only [go_sem, Nat.reduceEqDiff, Nat.reduceAdd, zw, zd, Nat.reduceLeDiff, Nat.reduceLT, Nat.reduceMul, List.length_append, decide_eq_true_eq, cfg_glob0, Int.reduceToNat, Int.reduceLE, List.drop_zero]; rfl); (· simp only [go_sem, Nat.reduceLT, Nat.reduceEqDiff]; rfl); (· rfl); first | (apply zb; (· simp only [go_sem, Nat.reduceLT]; rfl); (· simp only [go_sem, Nat.reduceLT]; rfl)) | (apply zf; (· simp only [go_sem, Nat.reduceLT]; rfl))) | ((first | apply z9 | apply za); (· rfl); (· simp only [go_sem, Nat.reduceLT]; rfl)) | (apply z8; (· simp only [go_sem, Nat.reduceEqDiff])) | (apply z5; (· simp only [go_sem, Nat.reduceEqDiff])) | (apply ze; (· kernel_rfl); (· kernel_rfl)) | (simp only [bW, if_true, Nat.reduceEqDiff, if_false])
  refine w_loop (st1 := ⟨99, [(0, .sl false (es.map encE) 7 none), (6, .lref 0 0 5 0), (7, .lref 1 0 5 0), (20, I (most : Nat)), (21, I (0 : Nat))], [(0, ⟨[.agg ((zV).map zn)], 5, false⟩), (1, ⟨[.agg ((zV.set 4 (some ⟨⟨1, 1⟩, []⟩)).map zn)], 5, false⟩)], 2, 0⟩) lk72_4 (by kernel_rfl) (L72_4 es most _ _ hes hlen hmost most 0 _ zV (by omega) (netB_set (zT _ _) (by simp [qB])) (zT _ _) (fun now' => ?_))
  rw [hc]
  have hl5 : c.length = 5 := by rw [← hc]; exact roundsN_len hes (by omega) (netB_set (zT 1 0) (by simp [qB])) (zT _ _)
  have ht5 : List.take 5 (List.map zn c) = List.map zn c := by rw [List.take_of_length_le]; simp [hl5]
  have hd5 : List.drop 5 (List.map zn c) = [] := by rw [List.drop_eq_nil_of_le]; simp [hl5]
  simp only [bW, if_true, Nat.reduceEqDiff, if_false]
  repeat' first | (intro hb; first | cases hb | skip) | ((first | apply z6 | apply zc); (· rfl); (· simp (disch := assumption) only [go_sem, Nat.reduceEqDiff, Nat.reduceAdd, zw, zd, Nat.reduceLeDiff, Nat.reduceLT, Nat.reduceMul, List.length_append, decide_eq_true_eq, hl5, ht5, hd5, List.length_map, allOne_net, List.take_zero]; rfl); (· simp only [go_sem, Nat.reduceLT, Nat.reduceEqDiff]; rfl); (· rfl); first | (apply zb; (· simp only [go_sem, Nat.reduceLT]; rfl); (· simp only [go_sem, Nat.reduceLT]; rfl)) | (apply zf; (· simp only [go_sem, Nat.reduceLT]; rfl))) | ((first | apply z9 | apply za); (· rfl); (· simp only [go_sem, Nat.reduceLT]; rfl)) | (apply z8; (· simp only [go_sem, Nat.reduceEqDiff])) | (apply z5; (· simp only [go_sem, Nat.reduceEqDiff])) | (apply ze; (· kernel_rfl); (· kernel_rfl)) | (simp only [bW, if_true, Nat.reduceEqDiff, if_false])
  subst hF
  all_goals simp only [go_sem, Nat.reduceEqDiff, zw, Nat.reduceAdd, Nat.reduceLeDiff, List.length_map, Tryd.f72, snap_net, ht5, hl5]

theorem t72 (es : List Edge) (src most : Nat) (hes : ∀ e ∈ es, edgeB e) (hlen : es.length ≤ 1000) (hsrc : src < 5) (hmost : most ≤ 5) : (lim cfg).pure 72 [.sl false (es.map encE) 7 none, I src, I most] = some (.agg ((zN es src most).map zn)) := by
  rcases src with _ | _ | _ | _ | _ | src
  · exact t72_0 es most hes hlen hmost
  · exact t72_1 es most hes hlen hmost
  · exact t72_2 es most hes hlen hmost
  · exact t72_3 es most hes hlen hmost
  · exact t72_4 es most hes hlen hmost
  · omega

end Go.VS
/-
  VS, part W2: rows of elements that hold no names; slices that a loop appends to. (A text of this claim's own; nothing of it is trusted.)
-/
namespace Go.VS
open Go

/-- Elements of a size that lead to none of the call's own objects. -/
structure EncOK {α : Type} (sz : Nat) (f : α → D) : Prop where
  snap : ∀ g n x, snap g (n + 2) (f x) = some (f x, [])
  ids : ∀ n x, idsD (n + 2) (f x) = some []
  ren : ∀ ρ n x, renD ρ (n + 2) (f x) = f x
  ok : ∀ x, (f x).okCells = true ∧ (f x).cells.length = sz
section
variable {α : Type} {sz : Nat} {f : α → D} (h : EncOK sz f)
include h
theorem EncOK.snapAll (g : Nat → Option Ob) (n : Nat) (l : List α) : Go.VS.snapAll (Go.VS.snap g (n + 2)) (l.map f) = some (l.map f, []) := by
  induction l with
  | nil => rfl
  | cons x l ih => simp only [List.map_cons, Go.VS.snapAll, ih, h.snap]; rfl
theorem EncOK.idsL (n : Nat) (l : List α) : Go.VS.idsL (idsD (n + 2)) (l.map f) = some [] := by
  induction l with
  | nil => rfl
  | cons x l ih => simp only [List.map_cons, Go.VS.idsL, ih, h.ids]; rfl
theorem EncOK.idsL_app (n : Nat) (l : List α) (b : List D) : Go.VS.idsL (idsD (n + 2)) (l.map f ++ b) = Go.VS.idsL (idsD (n + 2)) b := by
  induction l with
  | nil => rfl
  | cons x l ih =>
    simp only [List.map_cons, List.cons_append, Go.VS.idsL, ih, h.ids]
    cases Go.VS.idsL (idsD (n + 2)) b <;> rfl
theorem EncOK.renL (ρ : Nat → Option Nat) (n : Nat) (l : List α) : (l.map f).map (renD ρ (n + 2)) = l.map f := by
  rw [List.map_map]; exact List.map_congr_left fun x _ => h.ren ρ n x
theorem EncOK.allOk (l : List α) : Go.VS.allOk sz (l.map f) = true := by
  induction l with
  | nil => rfl
  | cons x l ih => simp only [List.map_cons, Go.VS.allOk, ih, (h.ok x).1, (h.ok x).2, decide_true, Bool.and_self]
end
theorem allOk_append {sz : Nat} : ∀ {a b : List D}, allOk sz (a ++ b) = (allOk sz a && allOk sz b)
  | [], b => by simp [allOk]
  | d :: a, b => by simp [allOk, allOk_append (a := a), Bool.and_assoc]

/-- A slice that began as nil and was appended to: as a value, among the objects, and the next free name. -/
def gD (k sz : Nat) {α : Type} (l : List α) : D := match l with | [] => .sl true [] 0 none | _ :: r => .lsl k 0 (r.length + 1) sz none
def gO (k sz : Nat) {α : Type} (f : α → D) (l : List α) : List (Nat × Ob) := match l with | [] => [] | x :: r => [(k, ⟨(x :: r).map f, sz, false⟩)]
def gN (k : Nat) {α : Type} (l : List α) : Nat := match l with | [] => k | _ => k + 1
/-- .. and as a deep value. -/
def gS (sz : Nat) {α : Type} (f : α → D) (l : List α) : D := match l with | [] => .sl true [] 0 none | x :: r => .sl false ((x :: r).map f) sz none
theorem z7 {α β : Type} {f : α → β} (r : List α) : List.take r.length (List.map f r) = List.map f r := by rw [List.take_of_length_le]; simp
theorem z0 {α β : Type} {f : α → β} (r : List α) (x : β) : List.take (r.length + 1) (List.map f r ++ [x]) = List.map f r ++ [x] := by rw [List.take_of_length_le]; simp
section
variable {t : Ty} {sub : Nat}
theorem pd_agg {cs : List D} : zw t sub (.agg cs) = if t.isAgg then (if sub + t.size ≤ cs.length then some (.agg ((cs.drop sub).take t.size)) else none) else match cs[sub]? with | some c => if c.one then some c else none | none => none := rfl
theorem pd_val {v : Value} : zw t sub (.val v) = if t.isAgg then none else if sub = 0 then (if D.one (.val v) then some (.val v) else none) else none := rfl
theorem pd_sl {nl : Bool} {els : List D} {sz : Nat} {cap : Option Nat} : zw t sub (.sl nl els sz cap) = if t.isAgg then none else if sub = 0 then (if D.one (.sl nl els sz cap) then some (.sl nl els sz cap) else none) else none := rfl
theorem pd_ptr {e : D} : zw t sub (.ptr e) = if t.isAgg then none else if sub = 0 then (if D.one (.ptr e) then some (.ptr e) else none) else none := rfl
theorem pd_lref {o i sz sub' : Nat} : zw t sub (.lref o i sz sub') = if t.isAgg then none else if sub = 0 then (if D.one (.lref o i sz sub') then some (.lref o i sz sub') else none) else none := rfl
theorem pd_lsl {o off len sz : Nat} {cap : Option Nat} : zw t sub (.lsl o off len sz cap) = if t.isAgg then none else if sub = 0 then (if D.one (.lsl o off len sz cap) then some (.lsl o off len sz cap) else none) else none := rfl
theorem pd_fn {f : Fn} {a b : List D} : zw t sub (.fn f a b) = if t.isAgg then none else if sub = 0 then (if D.one (.fn f a b) then some (.fn f a b) else none) else none := rfl
theorem pd_iface {t' : TypeId} {e : D} : zw t sub (.iface t' e) = if t.isAgg then none else if sub = 0 then (if D.one (.iface t' e) then some (.iface t' e) else none) else none := rfl
end
theorem ids_fn {f : Nat} {g : Fn} {a b : List D} : idsD (f + 1) (.fn g a b) = match idsL (idsD f) a, idsL (idsD f) b with | some a, some b => some (a ++ b) | _, _ => none := rfl
theorem ren_fn {ρ : Nat → Option Nat} {f : Nat} {g : Fn} {a b : List D} : renD ρ (f + 1) (.fn g a b) = .fn g (a.map (renD ρ f)) (b.map (renD ρ f)) := rfl
theorem ids_iface {f : Nat} {t : TypeId} {d : D} : idsD (f + 1) (.iface t d) = idsD f d := rfl
theorem ren_iface {ρ : Nat → Option Nat} {f : Nat} {t : TypeId} {d : D} : renD ρ (f + 1) (.iface t d) = .iface t (renD ρ f d) := rfl
set_option linter.defProp false
/-- Several equations in one. -/
def bP := (And.intro (And.intro (And.intro @pd_agg @pd_val) (And.intro @pd_sl @pd_ptr)) (And.intro (And.intro @pd_lref @pd_lsl) (And.intro @pd_fn @pd_iface)))
def bI2 := (And.intro (And.intro @ids_fn @ren_fn) (And.intro @ids_iface @ren_iface))
end Go.VS
