/- Nothing of a statement is proved in this text alone: it is part 0 of the proof's own tools, an evaluator of the code over deep values, its soundness, and what it makes of this seat's functions. Conditions: none beyond the statement's own. -/
import Derived.Calls
import Derived.Orders
import Derived.Below
import Derived.Laws.CopyRow
import Derived.Laws.Rows
import Derived.Laws.StructEq
import Derived.Laws.AppendOwn
import Derived.Laws.MakeOwn
set_option linter.unusedSimpArgs false
set_option linter.unusedVariables false
namespace Go.VS
theorem Ai {a b:Prop} (x:a) (y:b):a∧b:=⟨x,y⟩
open Go

inductive TK where
 | int (k:IntKind) | bool | str | ptr (e:TypeId) | slice (e:TypeId) | arr (n:Nat) (e:TypeId)
 | struct (fs:List (TypeId × Nat)) | func | iface | other
structure Ty where
 kind:TK
 size:Nat
 bytes:Nat
 zero:Value
def Ty.isAgg (t:Ty):Bool:=match t.kind with | .struct _=>true | .arr _ _=>true | _=>false

inductive D where
 | unk
 | val (v:Value)
 | agg (cs:List D)
 | tup (cs:List D)
 | sl (nl:Bool) (els:List D) (sz:Nat) (cap:Option Nat)
 | ptr (d:D)
 | lref (o i sz sub:Nat)
 | lsl (o off len sz:Nat) (cap:Option Nat)
 | fn (f:Fn) (first captured:List D)
 | iface (t:TypeId) (d:D)
 | yld (k:Nat)
instance:Inhabited D:=⟨.unk⟩

@[reducible] def I (n : Int) : D := .val (.int .i64 n)
@[reducible] def B (b : Bool) : D := .val (.bool b)

def D.one:D→Bool
 | .val (.agg _)=>false
 | .val (.tuple _)=>false
 | .agg _=>false
 | .tup _=>false
 | .unk=>false
 | _=>true
def D.cells:D→List D
 | .agg cs=>cs
 | d=>[d]
def allOne:List D→Bool
 | []=>true
 | d::ds=>d.one && allOne ds
def D.okCells:D→Bool
 | .agg cs=>allOne cs
 | d=>d.one
def ofCell:Value→D
 | .slice none 0 0=>.sl true [] 0 none
 | .agg _=>.unk
 | .tuple _=>.unk
 | v=>.val v
def ofV:Value→D
 | .agg cs=>.agg (cs.toList.map ofCell)
 | v=>ofCell v

structure Ob where
 els:List D
 sz:Nat
 froz:Bool

structure Cfg where
 P:Program
 fn:FuncId→Option Func
 ty:TypeId→Option Ty
 keep:FuncId→Nat→List Nat
 inl:FuncId→Bool
 ext:FuncId→Option (List D→Option D)
 xinl:FuncId→Option (List D→List (Nat × Ob)→Nat→Option (D × List (Nat × Ob) × Nat))
 glob:Nat→Option D
 eqok:TypeId→Bool
 /-- Is it told that no call draws less than none? (False where library functions are told that do not say so.) -/
 dr:Bool:=true
 /-- Blocks of package-level variables of which is known that they hold just this. -/
 tab:Nat→Option (Array Value):=fun _=>none

def eqb (a b:Nat):Bool:=Nat.beq a b
def ltb (a b:Nat):Bool:=Nat.blt a b
theorem yz {a b:Nat}:eqb a b=true↔a=b:=by unfold eqb; exact ⟨Nat.eq_of_beq_eq_true,fun h=>by subst h; exact Nat.beq_refl a⟩
theorem eqb_false {a b:Nat}:eqb a b=false↔a ≠ b:=by rw [← Bool.not_eq_true,yz]
theorem ltb_iff {a b:Nat}:ltb a b=true↔a < b:=by unfold ltb Nat.blt; exact ⟨fun h=>Nat.le_of_ble_eq_true h,fun h=>Nat.ble_eq_true_of_le h⟩
theorem ltb_false {a b:Nat}:ltb a b=false↔¬ a < b:=by rw [← Bool.not_eq_true,ltb_iff]
theorem eqb_dec (a b:Nat):eqb a b=decide (a=b):=by cases h:eqb a b <;> simp_all [yz,eqb_false]
theorem ltb_dec (a b:Nat):ltb a b=decide (a < b):=by
 cases h:ltb a b
 ·exact (decide_eq_false (ltb_false.1 h)).symm
 ·exact (decide_eq_true (ltb_iff.1 h)).symm

inductive Tr (β:Type) where
 | nil
 | node (l:Tr β) (k:Nat) (v:β) (r:Tr β)
def Tr.find {β:Type}:Tr β→Nat→Option β
 | .nil,_=>none
 | .node l k v r,t=>bif ltb t k then l.find t else bif ltb k t then r.find t else some v

def Tr.All {β:Type} (p:Nat→β→Prop):Tr β→Prop
 | .nil=>True
 | .node l k v r=>l.All p∧p k v∧r.All p
theorem Tr.all_nil {β:Type} {p:Nat→β→Prop}:(Tr.nil:Tr β).All p:=trivial
theorem Tr.all_node {β:Type} {p:Nat→β→Prop} {l r:Tr β} {k:Nat} {v:β} (hl:l.All p) (hm:p k v) (hr:r.All p):(Tr.node l k v r).All p:=⟨hl,hm,hr⟩
theorem Tr.All.find {β:Type} {p:Nat→β→Prop} {t:Tr β} (h:t.All p) {k:Nat} {v:β} (hf:t.find k=some v):p k v:=by
 induction t with
 | nil=>simp [Tr.find] at hf
 | node l k' v' r ihl ihr =>
  obtain ⟨hl,hm,hr⟩:=h
  simp only [Tr.find] at hf
  cases h1:ltb k k' with
  | true=>rw [h1] at hf; exact ihl hl hf
  | false =>
   rw [h1] at hf
   cases h2:ltb k' k with
   | true=>rw [h2] at hf; exact ihr hr hf
   | false =>
    rw [h2] at hf
    have:=ltb_false.1 h1; have:=ltb_false.1 h2
    obtain rfl:k'=k:=by omega
    cases hf; exact hm
def tkOf (d:TypeDesc):TK:=match d with
 | .int k=>.int k | .bool=>.bool | .string=>.str | .pointer e=>.ptr e | .slice e=>.slice e | .array n e=>.arr n e
 | .struct fs=>.struct (fs.toList.map fun f=>(f.type,f.offset)) | .func _ _ _=>.func | .interface _=>.iface | _=>.other
def tyOf (P:Program) (t:TypeId):Option Ty:=match P.info? t,P.underlying t with
 | some i,some d=>match i.zero with | some z=>some ⟨tkOf d,i.size,i.bytes,z⟩ | none=>none
 | _,_=>none

def get:List (Nat × D)→Nat→D
 | [],_=>.unk
 | (k,d)::r,t=>bif eqb k t then d else get r t
def ins (t:Nat) (d:D) (l:List (Nat × D)):List (Nat × D):=(t,d)::l
def zB:List (Nat × Ob)→Nat→Option Ob
 | [],_=>none
 | (k,d)::r,t=>bif eqb k t then some d else zB r t
def oins (t:Nat) (d:Ob):List (Nat × Ob)→List (Nat × Ob)
 | []=>[(t,d)]
 | (k,e)::r=>bif ltb t k then (t,d)::(k,e)::r else bif eqb t k then (t,d)::r else (k,e)::oins t d r
def odel (t:Nat):List (Nat × Ob)→List (Nat × Ob)
 | []=>[]
 | (k,e)::r=>bif eqb k t then odel t r else (k,e)::odel t r

structure St where
 n:Nat
 tmps:List (Nat × D)
 objs:List (Nat × Ob)
 nxt:Nat
 pin:Nat

def putT (n:Nat) (tmps:List (Nat × D)):Option Tmp→D→List (Nat × D)
 | none,_=>tmps
 | some t,d=>bif ltb t n then ins t d tmps else tmps

abbrev Upd:=Nat × Option Ob
def applyUpd:List Upd→List (Nat × Ob)→List (Nat × Ob)
 | [],os=>os
 | (k,some b)::r,os=>applyUpd r (oins k b os)
 | (k,none)::r,os=>applyUpd r (odel k os)

structure Out where
 d:D
 wr:List Upd
 rd:List Nat
 nxt:Nat

def partD (t:Ty) (sub:Nat) (d:D):Option D :=
 match d with
 | .agg cs=>if t.isAgg then (if sub+t.size≤cs.length then some (.agg ((cs.drop sub).take t.size)) else none)
   else match cs[sub]? with | some c=>if c.one then some c else none | none=>none
 | d=>if t.isAgg then none else if sub=0 then (if d.one then some d else none) else none
def setPart (sub:Nat) (d v:D):Option D :=
 match d with
 | .agg cs=>if sub+v.cells.length≤cs.length then some (.agg (cs.take sub++v.cells++cs.drop (sub+v.cells.length))) else none
 | d=>if d.one && v.one && sub == 0 then some v else none

def zQ (C:Cfg) (gT:Nat→D):Operand→D
 | .tmp t=>gT t
 | .const v=>ofV v
 | .global g=>match C.glob g with | some d=>.ptr d | none=>.unk
 | .func f=>.fn (.func f) [] []

def bytesEq (a b:ByteArray):Bool:=a.toList == b.toList
def eqVal (v u:Value):Option Bool:=match v with
 | .int j a=>match u with
  | .int k b=>if j=k then some (a == b) else none
  | _=>none
 | _=>none
def eqBoolV (v u:Value):Option Bool:=match v with
 | .bool a=>match u with
  | .bool b=>some (a == b)
  | _=>none
 | _=>none
def eqStrV (v u:Value):Option Bool:=match v with
 | .string a=>match u with
  | .string b=>some (bytesEq a b)
  | _=>none
 | _=>none
def onVals (g:Value→Value→Option Bool) (x y:D):Option Bool:=match x with
 | .val v=>match y with
  | .val u=>g v u
  | _=>none
 | _=>none
def eqParts (C:Cfg) (g:TypeId→D→D→Option Bool) (x y:D):List (TypeId × Nat)→Option Bool
 | []=>some true
 | (t,off)::r=>match C.ty t with
  | some ty=>match partD ty off x,partD ty off y with
   | some a,some b=>match g t a b,eqParts C g x y r with
    | some p,some q=>some (p && q)
    | _,_=>none
   | _,_=>none
  | none=>none
def eqElems (te:Ty) (g:D→D→Option Bool) (x y:D):Nat→Nat→Option Bool
 | _,0=>some true
 | i,n+1=>match partD te (i * te.size) x,partD te (i * te.size) y with
  | some a,some b=>match g a b,eqElems te g x y (i+1) n with
   | some p,some q=>some (p && q)
   | _,_=>none
  | _,_=>none
def isAggD (d:D):Bool:=match d with
 | .agg _=>true
 | _=>false
def eqD (C:Cfg):Nat→TypeId→D→D→Option Bool
 | 0,_,_,_=>none
 | f+1,t,x,y=>match C.ty t with
  | some ty=>match ty.kind with
   | .int _=>onVals eqVal x y
   | .bool=>onVals eqBoolV x y
   | .str=>onVals eqStrV x y
   | .struct fs=>if C.eqok t && isAggD x && isAggD y then eqParts C (eqD C f) x y fs else none
   | .arr n e=>if C.eqok t && isAggD x && isAggD y then match C.ty e with
     | some te=>eqElems te (eqD C f e) x y 0 n
     | none=>none
    else none
   | _=>none
  | none=>none
def intOp (op:BinOp) (k:IntKind) (a b:Int):Option D :=
 match op with
 | .add=>some (.val (.int k (k.wrap (a+b))))
 | .sub=>some (.val (.int k (k.wrap (a - b))))
 | .mul=>some (.val (.int k (k.wrap (a * b))))
 | .quo=>if b=0 then none else some (.val (.int k (k.wrap (a.tdiv b))))
 | .rem=>if b=0 then none else some (.val (.int k (a.tmod b)))
 | .eql=>some (B (a == b))
 | .neq=>some (B (a != b))
 | .lss=>some (B (decide (a < b)))
 | .leq=>some (B (decide (a≤b)))
 | .gtr=>some (B (decide (a > b)))
 | .geq=>some (B (decide (a ≥ b)))
 | .and=>some (.val (.int k (k.wrap ((BitVec.ofInt k.bits a &&& BitVec.ofInt k.bits b).toNat))))
 | .or=>some (.val (.int k (k.wrap ((BitVec.ofInt k.bits a ||| BitVec.ofInt k.bits b).toNat))))
 | .xor=>some (.val (.int k (k.wrap ((BitVec.ofInt k.bits a ^^^ BitVec.ofInt k.bits b).toNat))))
 | .andNot=>some (.val (.int k (k.wrap ((BitVec.ofInt k.bits a &&& ~~~ BitVec.ofInt k.bits b).toNat))))
 | _=>none
def shiftOp (op:BinOp) (k:IntKind) (a b:Int):Option D :=
 if b < 0 then none else match op with
 | .shl=>some (.val (.int k (k.wrap (a * 2 ^ (min b.toNat k.bits)))))
 | .shr=>some (.val (.int k (a.fdiv (2 ^ (min b.toNat k.bits)))))
 | _=>none
def strOp (op:BinOp) (a b:ByteArray):Option D :=
 match op with
 | .add=>if ((a.size+b.size:Nat):Int) > IntKind.i64.max then none else some (.val (.string (a++b)))
 | .eql=>some (B (bytesEq a b))
 | .neq=>some (B (!bytesEq a b))
 | .lss=>some (B (Op.bytesLess a.toList b.toList))
 | .leq=>some (B (Op.bytesLess a.toList b.toList || bytesEq a b))
 | .gtr=>some (B (!(Op.bytesLess a.toList b.toList || bytesEq a b)))
 | .geq=>some (B (!Op.bytesLess a.toList b.toList))
 | _=>none
def neqOf (op:BinOp) (b:Option Bool):Option D :=
 match op,b with
 | .eql,some b=>some (B b)
 | .neq,some b=>some (B (!b))
 | _,_=>none
def binInt (op:BinOp) (k:IntKind) (a:Int) (k':IntKind) (b:Int):Option D :=
 match op with
 | .shl=>shiftOp .shl k a b
 | .shr=>shiftOp .shr k a b
 | op=>if k=k' then intOp op k a b else none
def nilKind (d:D):Nat:=match d with
 | .val v=>match v with
  | .pointer a=>match a with | none=>1 | some _=>0
  | .nilIface=>3
  | .nilFunc=>4
  | _=>0
 | .sl nl _ _ _=>match nl with | true=>2 | false=>12
 | .ptr _=>11
 | .lref _ _ _ _=>11
 | .lsl _ _ _ _ _=>12
 | .iface _ _=>13
 | .fn _ _ _=>14
 | _=>0
def kindCode (C:Cfg) (t:TypeId):Nat:=match C.ty t with
 | some ty=>match ty.kind with
  | .ptr _=>1
  | .slice _=>2
  | .iface=>3
  | .func=>4
  | .bool=>5
  | _=>0
 | none=>0
def binNil (kc:Nat) (cst:Bool) (op:BinOp) (x y:Nat):Option D :=
 if x % 10=kc && y % 10=kc && decide (1≤kc) && decide (kc≤4) then
  if x < 10 && y < 10 then (if kc=3 && !cst then none else neqOf op (some true))
  else if x < 10 || y < 10 then neqOf op (some false) else none
 else none
def binVal (kc:Nat) (cst:Bool) (op:BinOp) (v u:Value):Option D:=match v with
 | .int k a=>match u with
  | .int k' b=>binInt op k a k' b
  | _=>none
 | .string a=>match u with
  | .string b=>strOp op a b
  | _=>none
 | .bool a=>match u with
  | .bool b=>if kc=5 then neqOf op (some (a == b)) else none
  | _=>none
 | _=>binNil kc cst op (nilKind (.val v)) (nilKind (.val u))
def binD (C:Cfg) (t:TypeId) (cst:Bool) (op:BinOp) (x y:D):Option D :=
 match x with
 | .val v=>match y with
  | .val u=>binVal (kindCode C t) cst op v u
  | _=>binNil (kindCode C t) cst op (nilKind x) (nilKind y)
 | .agg _=>neqOf op (eqD C 16 t x y)
 | _=>binNil (kindCode C t) cst op (nilKind x) (nilKind y)
def unD (op:UnOp) (x:D):Option D :=
 match op,x with
 | .neg,.val (.int k n)=>some (.val (.int k (k.wrap (0 - n))))
 | .not,.val (.bool b)=>some (B (!b))
 | _,_=>none
def convD (C:Cfg) (src dst:TypeId) (x:D):Option D :=
 match C.ty src,C.ty dst with
 | some s,some t=>match s.kind,t.kind,x with
  | .int _,.int k,.val (.int _ n)=>some (.val (.int k (k.wrap n)))
  | .str,.str,.val (.string b)=>some (.val (.string b))
  | _,_,_=>none
 | _,_=>none

def boundD:D→Option Nat
 | .val (.int _ n)=>if 0≤n then some n.toNat else none
 | _=>none
def optBound:Option D→Option (Option Nat)
 | none=>some none
 | some d=>match boundD d with | some n=>some (some n) | none=>none
def capBehind (cap:Option Nat) (lo:Nat):Option Nat→Option Nat
 | some m=>some (m - lo)
 | none=>match cap with | some c=>some (c - lo) | none=>none
def elemsD (gO:Nat→Option Ob):D→Option (List D × Nat × List Nat)
 | .sl true _ _ _=>some ([],0,[])
 | .sl false els sz _=>some (els,sz,[])
 | .lsl o off len sz _=>match gO o with
  | some ob=>if ob.sz=sz && decide (off+len≤ob.els.length) then some ((ob.els.drop off).take len,sz,[o]) else none
  | none=>none
 | _=>none
def allOk (sz:Nat):List D→Bool
 | []=>true
 | d::ds=>d.okCells && decide (d.cells.length=sz) && allOk sz ds

def snapAll (g:D→Option (D × List Nat)):List D→Option (List D × List Nat)
 | []=>some ([],[])
 | d::ds=>match g d,snapAll g ds with
  | some (d,r),some (ds,r')=>some (d::ds,r++r')
  | _,_=>none
def snap (gO:Nat→Option Ob):Nat→D→Option (D × List Nat)
 | 0,_=>none
 | f+1,d=>match d with
  | .unk=>none
  | .val v=>some (.val v,[])
  | .sl nl els sz _=>some (.sl nl els sz none,[])
  | .ptr d=>some (.ptr d,[])
  | .agg cs=>match snapAll (snap gO f) cs with | some (cs,r)=>some (.agg cs,r) | none=>none
  | .tup cs=>match snapAll (snap gO f) cs with | some (cs,r)=>some (.tup cs,r) | none=>none
  | .fn g a b=>match snapAll (snap gO f) a,snapAll (snap gO f) b with
   | some (a,r),some (b,r')=>some (.fn g a b,r++r')
   | _,_=>none
  | .iface t d=>match snap gO f d with | some (d,r)=>some (.iface t d,r) | none=>none
  | .yld _=>none
  | .lref o i sz sub=>if sub=0 then match gO o with
   | some ob=>if ob.sz=sz then match ob.els[i]? with
    | some e=>match snap gO f e with | some (e,r)=>some (.ptr e,o::r) | none=>none
    | none=>none
    else none
   | none=>none
   else none
  | .lsl o off len sz _=>match gO o with
   | some ob=>if ob.sz=sz && decide (off+len≤ob.els.length) then
    match snapAll (snap gO f) ((ob.els.drop off).take len) with | some (es,r)=>some (.sl false es sz none,o::r) | none=>none
    else none
   | none=>none
end Go.VS

namespace Go.VS
open Go

structure Rnd where
 f:FuncId
 y:Nat
 n:Nat
 tmps:List (Nat × D)
 ps:List Tmp
 assign:Code
 body:Code
structure Sm where
 pure:FuncId→List D→Option D
 inl:FuncId→List D→List (Nat × Ob)→Nat→Option (D × List (Nat × Ob) × Nat)
 loop:FuncId→Code→St→Option (Exit × St)
 loopY:Rnd→FuncId→Code→St→Option (Exit × St × Option Code)
 iter:Rnd→FuncId→List D→List (Nat × Ob)→Nat→Option (List (Nat × Ob) × Nat × Option Code)

def flatL (g:D→Bool):List D→Bool
 | []=>true
 | d::ds=>g d && flatL g ds
def flat:Nat→D→Bool
 | 0,_=>false
 | f+1,d=>match d with
  | .val _=>true
  | .sl true _ _ _=>true
  | .agg cs=>flatL (flat f) cs
  | .tup cs=>flatL (flat f) cs
  | _=>false

def big:Nat:=35184372088832
def newOb (nxt:Nat) (els:List D) (sz:Nat) (d:D) (rd:List Nat):Out:=⟨d,[(nxt,some ⟨els,sz,false⟩)],rd,nxt+1⟩
def just (nxt:Nat) (d:D):Option Out:=some ⟨d,[],[],nxt⟩
def justO (nxt:Nat) (d:Option D):Option Out:=match d with | some d=>some ⟨d,[],[],nxt⟩ | none=>none

def fillCells (place:Nat→Option (Nat × Nat)):List D→List (Nat × D)→Option (List D)
 | cs,[]=>some cs
 | cs,(i,d)::r=>match place i with
  | some (off,size)=>if d.okCells && decide (d.cells.length=size) && decide (off+size≤cs.length) then
    fillCells place (cs.take off++d.cells++cs.drop (off+size)) r else none
  | none=>none
def fillEls (sz:Nat):List D→List (Nat × D)→Option (List D)
 | cs,[]=>some cs
 | cs,(i,d)::r=>if d.okCells && decide (d.cells.length=sz) && decide (i < cs.length) then fillEls sz (cs.set i d) r else none
def zeroD (t:Ty):D:=ofV t.zero
def placesOf (C:Cfg):List (TypeId × Nat)→Option (List (Nat × Nat))
 | []=>some []
 | (t,off)::r=>match C.ty t,placesOf C r with
  | some ty,some l=>some ((off,ty.size)::l)
  | _,_=>none
def fillAgg (place:Nat→Option (Nat × Nat)) (cs:List D) (parts:List (Nat × D)):Option D:=match fillCells place cs parts with
 | some cs=>some (.agg cs)
 | none=>none
def zeroOk (t:Ty):Bool:=(zeroD t).okCells && decide ((zeroD t).cells.length=t.size)
def buildD (C:Cfg) (t:TypeId) (parts:List (Nat × D)):Option D :=
 match C.ty t with
 | some ty =>
  if zeroOk ty then
   match ty.kind with
   | .struct fs=>match placesOf C fs with
    | some pl=>fillAgg (fun i=>pl[i]?) (zeroD ty).cells parts
    | none=>none
   | .arr _ e=>match C.ty e with
    | some te=>fillAgg (fun i=>some (i * te.size,te.size)) (zeroD ty).cells parts
    | none=>none
   | _=>none
  else none
 | none=>none

def minD2 (x y:D):Option D:=match x,y with
 | .val (.int k a),.val (.int _ b)=>some (.val (.int k (if b < a then b else a)))
 | _,_=>none
def maxD2 (x y:D):Option D:=match x,y with
 | .val (.int k a),.val (.int _ b)=>some (.val (.int k (if b > a then b else a)))
 | _,_=>none
def foldD (g:D→D→Option D):D→List D→Option D
 | x,[]=>some x
 | x,y::r=>match g x y with | some z=>foldD g z r | none=>none

def sliceElem (C:Cfg) (t:TypeId):Option Ty:=match C.ty t with
 | some ty=>match ty.kind with
  | .slice e=>C.ty e
  | _=>none
 | none=>none
def newRow (te:Ty) (nxt:Nat) (els:List D) (rd:List Nat):Option Out :=
 if decide (els.length * te.bytes≤big) && decide (els.length≤big) then
  some (newOb nxt els te.size (.lsl nxt 0 els.length te.size none) rd) else none
def appSl (te:Ty) (nxt:Nat) (rx:List Nat) (xs:List D) (nl:Bool) (els:List D) (sz:Nat) (cap:Option Nat):Option Out :=
 match nl with
 | true=>newRow te nxt xs rx
 | false=>match cap with
  | some c=>if decide (sz=te.size) && decide (c < els.length+xs.length) && allOk te.size els then newRow te nxt (els++xs) rx else none
  | none=>none
def appLsl (te:Ty) (nxt:Nat) (rx:List Nat) (xs:List D) (ob:Ob) (o off len:Nat) (cap:Option Nat):Option Out :=
 match cap with
 | some c=>if decide (c < len+xs.length) && allOk te.size ((ob.els.drop off).take len) then
   newRow te nxt ((ob.els.drop off).take len++xs) (o::rx) else none
 | none=>if decide (off=0) && !ob.froz && decide ((len+xs.length) * te.bytes≤big) && decide (len+xs.length≤big) then
   if len+xs.length≤ob.els.length then
    some ⟨.lsl o 0 (len+xs.length) te.size none,[(o,some ⟨ob.els.take len++xs++ob.els.drop (len+xs.length),te.size,false⟩)],o::rx,nxt⟩
   else if allOk te.size (ob.els.take len) then
    some ⟨.lsl nxt 0 (len+xs.length) te.size none,[(o,none),(nxt,some ⟨ob.els.take len++xs,te.size,false⟩)],o::rx,nxt+1⟩
   else none
  else none
def isSl (d:D):Bool:=match d with
 | .sl _ _ _ _=>true
 | .lsl _ _ _ _ _=>true
 | _=>false
def appendE (te:Ty) (gO:Nat→Option Ob) (nxt:Nat) (s x:D):Option Out:=match elemsD gO x with
 | some (xs,szx,rx) =>
  if xs.isEmpty then (if isSl s then some ⟨s,[],rx,nxt⟩ else none)
  else if decide (szx=te.size) && allOk te.size xs && zeroOk te && decide (0 < te.size) then match s with
   | .sl nl els sz cap=>appSl te nxt rx xs nl els sz cap
   | .lsl o off len sz cap=>match gO o with
    | some ob=>if decide (sz=te.size) && decide (ob.sz=te.size) && decide (off+len≤ob.els.length) then appLsl te nxt rx xs ob o off len cap else none
    | none=>none
   | _=>none
  else none
 | none=>none
def zLen (x:D):Option Int:=match x with
 | .val v=>match v with
  | .int _ i=>some i
  | _=>none
 | _=>none
def appendZ (C:Cfg) (te:Ty) (nxt:Nat) (t':TypeId) (s x:D):Option Out:=match C.ty t' with
 | some ty=>match ty.kind with
  | .int _=>match s with
   | .sl nl _ _ _=>match nl with
    | true=>match zLen x with
     | some n=>if decide (0 < n) && zeroOk te && decide (0 < te.size) then newRow te nxt (List.replicate n.toNat (zeroD te)) [] else none
     | none=>none
    | false=>none
   | _=>none
  | _=>none
 | none=>none
def appendD (C:Cfg) (gO:Nat→Option Ob) (nxt:Nat) (argTypes:Array TypeId) (s x:D):Option Out :=
 match argTypes[0]?,argTypes[1]? with
 | some t,some t'=>match sliceElem C t,sliceElem C t' with
  | some te,some _=>appendE te gO nxt s x
  | some te,none=>appendZ C te nxt t' s x
  | none,_=>none
 | _,_=>none
def lenT (C:Cfg) (argTypes:Array TypeId) (x:D):Option D:=match argTypes[0]? with
 | some t=>match C.ty t with
  | some ty=>match ty.kind with
   | .str=>match x with
    | .val v=>match v with
     | .string s=>some (I s.size)
     | _=>none
    | _=>none
   | .slice _=>match x with
    | .sl nl els _ _=>some (I (if nl then 0 else els.length))
    | .lsl _ _ len _ _=>some (I len)
    | _=>none
   | _=>none
  | none=>none
 | none=>none

def clearD (C:Cfg) (gO:Nat→Option Ob) (nxt:Nat) (argTypes:Array TypeId) (x:D):Option Out:=match argTypes[0]? with
 | some t=>match sliceElem C t with
  | some te=>match x with
   | .lsl o off len sz _=>match gO o with
    | some ob=>if decide (ob.sz=sz) && decide (te.size=sz) && zeroOk te && !ob.froz && decide (off+len≤ob.els.length) then
      some ⟨.tup [],[(o,some ⟨ob.els.take off++List.replicate len (zeroD te)++ob.els.drop (off+len),sz,false⟩)],[o],nxt⟩ else none
    | none=>none
   | _=>none
  | none=>none
 | none=>none
def capT (C:Cfg) (argTypes:Array TypeId) (x:D):Option D:=match argTypes[0]? with
 | some t=>match C.ty t with
  | some ty=>match ty.kind with
   | .slice _=>match x with
    | .sl nl _ _ _=>match nl with | true=>some (I 0) | false=>none
    | _=>none
   | _=>none
  | none=>none
 | none=>none
def builtinD (C:Cfg) (gO:Nat→Option Ob) (nxt:Nat) (b:Builtin) (argTypes:Array TypeId) (args:List D):Option Out :=
 match b,args with
 | .len,[x]=>justO nxt (lenT C argTypes x)
 | .append,[s,x]=>appendD C gO nxt argTypes s x
 | .clear,[x]=>clearD C gO nxt argTypes x
 | .min,x::r=>justO nxt (foldD minD2 x r)
 | .max,x::r=>justO nxt (foldD maxD2 x r)
 | .cap,[x]=>justO nxt (capT C argTypes x)
 | _,_=>none

def freeze (gO:Nat→Option Ob):List Nat→List Upd
 | []=>[]
 | o::r=>match gO o with
  | some ob=>(o,some ⟨ob.els,ob.sz,true⟩)::freeze gO r
  | none=>freeze gO r
def fuelD:Nat:=16

def idsL (g:D→Option (List Nat)):List D→Option (List Nat)
 | []=>some []
 | d::ds=>match g d,idsL g ds with
  | some a,some b=>some (a++b)
  | _,_=>none
def idsD:Nat→D→Option (List Nat)
 | 0,_=>none
 | f+1,d=>match d with
  | .lref o _ _ _=>some [o]
  | .lsl o _ _ _ _=>some [o]
  | .yld o=>some [o]
  | .agg cs=>idsL (idsD f) cs
  | .tup cs=>idsL (idsD f) cs
  | .fn _ a b=>match idsL (idsD f) a,idsL (idsD f) b with
   | some a,some b=>some (a++b)
   | _,_=>none
  | .iface _ d=>idsD f d
  | _=>some []
def memN (o:Nat):List Nat→Bool
 | []=>false
 | x::r=>bif eqb x o then true else memN o r
def ze (objs:List (Nat × Ob)):Nat→List Nat→List Nat→Option (List Nat)
 | f,todo,acc=>match todo with
  | []=>some acc
  | o::todo=>match f with
   | 0=>none
   | f+1=>bif memN o acc then ze objs f todo acc else match zB objs o with
    | some ob=>match idsL (idsD fuelD) ob.els with
     | some l=>ze objs f (todo++l) (acc++[o])
     | none=>none
    | none=>ze objs f todo (acc++[o])
def allBelow (n:Nat):List Nat→Bool
 | []=>true
 | o::r=>bif ltb o n then allBelow n r else false
def only (ids:List Nat):List (Nat × Ob)→List (Nat × Ob)
 | []=>[]
 | (k,ob)::r=>bif memN k ids then (k,ob)::only ids r else only ids r
def keysO:List (Nat × Ob)→List Nat
 | []=>[]
 | (k,_)::r=>k::keysO r

def sameD (a b:D):Bool:=match a with
 | .lref o i sz sub=>match b with
  | .lref o' i' sz' sub'=>eqb o o' && eqb i i' && eqb sz sz' && eqb sub sub'
  | _=>false
 | _=>false
def sameL:List D→List D→Bool
 | [],[]=>true
 | a::l,b::r=>sameD a b && sameL l r
 | _,_=>false
def sameOb (a b:Option Ob):Bool:=match a with
 | some a=>match b with
  | some b=>sameL a.els b.els && eqb a.sz b.sz && (match a.froz with | true=>b.froz | false=>!b.froz)
  | none=>false
 | none=>false
def capV:List D→List Nat
 | []=>[]
 | d::r=>match d with
  | .lref o i sz sub=>match eqb sz 1 && (eqb sub 0 && eqb i 0) with
   | true=>o::capV r
   | false=>capV r
  | _=>capV r
def chgUpd (args:List D) (objs objs':List (Nat × Ob)) (ids:List Nat):List Nat→List Upd
 | []=>[]
 | o::r=>match memN o (capV args) && (memN o ids && sameOb (zB objs o) (zB objs' o)) with
  | true=>chgUpd args objs objs' ids r
  | false=>(o,zB objs' o)::chgUpd args objs objs' ids r
def callInl (S:Sm) (objs:List (Nat × Ob)) (nxt:Nat) (K:FuncId) (args:List D):Option Out :=
 match idsL (idsD fuelD) args with
 | some l=>match ze objs 256 l [] with
  | some ids=>bif allBelow nxt ids then match S.inl K args (only ids objs) nxt with
    | some (d,objs',nxt')=>bif ltb nxt' nxt then none else some ⟨d,chgUpd args objs objs' ids (ids++keysO objs'),ids,nxt'⟩
    | none=>none
   else none
  | none=>none
 | none=>none
def callPure (S:Sm) (objs:List (Nat × Ob)) (nxt:Nat) (K:FuncId) (args:List D):Option Out :=
 match snapAll (snap (zB objs) fuelD) args with
 | some (args',ids)=>match S.pure K args' with
  | some r=>some ⟨r,if flat fuelD r then [] else freeze (zB objs) ids,ids,nxt⟩
  | none=>none
 | none=>none
def callK (C:Cfg) (S:Sm) (objs:List (Nat × Ob)) (nxt:Nat) (K:FuncId) (args:List D):Option Out :=
 match C.fn K with
 | some _=>if C.inl K then callInl S objs nxt K args else callPure S objs nxt K args
 | none=>none

def callD (C:Cfg) (S:Sm) (gT:Nat→D) (objs:List (Nat × Ob)) (nxt:Nat) (c:Call):Option Out :=
 match c.callee with
 | .builtin b=>if c.argTypes.size=c.args.size then builtinD C (zB objs) nxt b c.argTypes (c.args.toList.map (zQ C gT)) else none
 | .value f=>match zQ C gT f with
  | .fn g first captured=>match g with
   | .func K=>callK C S objs nxt K (first++c.args.toList.map (zQ C gT)++captured)
   | _=>none
  | _=>none
 | .invoke _ _=>none

def evPick (nxt:Nat) (c a b:D):Option Out:=match c with
 | .val v=>match v with
  | .bool t=>just nxt (if t then a else b)
  | _=>none
 | _=>none
def evAlloc (C:Cfg) (nxt:Nat) (e:TypeId):Option Out:=match C.ty e with
 | some t=>if zeroOk t then some (newOb nxt [zeroD t] t.size (.lref nxt 0 t.size 0) []) else none
 | none=>none
def evBox (nxt:Nat) (d:D):Option Out :=
 if d.okCells then some (newOb nxt [d] d.cells.length (.lref nxt 0 d.cells.length 0) []) else none
def evBuildSlice (C:Cfg) (nxt:Nat) (t:TypeId) (len:Nat) (ps:List (Nat × D)):Option Out:=match sliceElem C t with
 | some te=>if zeroOk te && decide (len * te.size≤16777216) && decide (0 < te.size) then
   match fillEls te.size (List.replicate len (zeroD te)) ps with
   | some els=>some (newOb nxt els te.size (.lsl nxt 0 len te.size (some len)) [])
   | none=>none
  else none
 | none=>none
def elAt (objs:List (Nat × Ob)) (o i sz:Nat):Option (D × Ob):=match zB objs o with
 | some ob=>bif eqb ob.sz sz then match ob.els[i]? with | some e=>some (e,ob) | none=>none else none
 | none=>none
def evLoad (C:Cfg) (objs:List (Nat × Ob)) (nxt:Nat) (t:TypeId) (a:D):Option Out:=match C.ty t with
 | some ty=>match a with
  | .ptr d=>justO nxt (partD ty 0 d)
  | .lref o i sz sub=>match elAt objs o i sz with
   | some (e,_)=>match partD ty sub e with | some d=>some ⟨d,[],[o],nxt⟩ | none=>none
   | none=>none
  | _=>none
 | none=>none
def evStore (C:Cfg) (objs:List (Nat × Ob)) (nxt:Nat) (t:TypeId) (a v:D):Option Out:=match C.ty t with
 | some ty=>match a with
  | .lref o i sz sub=>match elAt objs o i sz with
   | some (e,ob)=>if !ob.froz && v.okCells && decide (v.cells.length=ty.size) && e.okCells then
     match setPart sub e v with
     | some e'=>some ⟨.tup [],[(o,some ⟨ob.els.set i e',ob.sz,false⟩)],[o],nxt⟩
     | none=>none
    else none
   | none=>none
  | _=>none
 | none=>none
def evNilCheck (nxt:Nat) (d:D):Option Out:=match d with
 | .ptr d=>just nxt (.ptr d)
 | .lref o i sz sub=>just nxt (.lref o i sz sub)
 | .fn g a b=>match g with
  | .func f=>just nxt (.fn (.func f) a b)
  | _=>none
 | .yld k=>just nxt (.yld k)
 | _=>none
def evMakeInterface (C:Cfg) (nxt:Nat) (t:TypeId) (d:D):Option Out:=match C.ty t with
 | some ty=>match ty.kind with
  | .iface=>none
  | _=>just nxt (.iface t d)
 | none=>none
def i64Of (d:D):Option Int:=match d with
 | .val v=>match v with
  | .int k n=>match k with
   | .i64=>some n
   | _=>none
  | _=>none
 | _=>none
def intOfD (d:D):Option Int:=match d with
 | .val v=>match v with
  | .int _ n=>some n
  | _=>none
 | _=>none
def evMakeSlice (C:Cfg) (nxt:Nat) (t:TypeId) (l c:D):Option Out:=match sliceElem C t with
 | some te=>match i64Of l,i64Of c with
  | some n,some m =>
   if decide (n=m) && decide (0≤n) && decide (n.toNat * te.bytes≤big) && decide (n≤(big:Int)) && zeroOk te then
    some (newOb nxt (List.replicate n.toNat (zeroD te)) te.size (.lsl nxt 0 n.toNat te.size none) []) else none
  | _,_=>none
 | none=>none
def rdOf (d:D):List Nat:=match d with
 | .lsl o _ _ _ _=>[o]
 | _=>[]
def strSlice (x:D) (lo hi mx:Option Nat):Option D:=match x with
 | .val v=>match v with
  | .string s=>if mx.isNone && decide (hi.getD s.size≤s.size) && decide (lo.getD 0≤hi.getD s.size) then some (.val (.string (s.extract (lo.getD 0) (hi.getD s.size)))) else none
  | _=>none
 | _=>none
def slSlice (nl:Bool) (els:List D) (sz:Nat) (cap:Option Nat) (te:Ty) (lo hi mx:Option Nat):Option D:=match nl with
 | true=>if decide (lo.getD 0=0) && decide (hi.getD 0=0) && decide (mx.getD 0=0) && (mx.isNone || hi.isSome) then some (.sl true [] 0 none) else none
 | false=>if decide (te.size=sz) && (mx.isNone || hi.isSome) && decide (hi.getD els.length≤els.length) && decide (lo.getD 0≤hi.getD els.length) && decide (hi.getD els.length≤mx.getD els.length) && decide (mx.getD els.length≤els.length) then
   some (.sl false ((els.take (hi.getD els.length)).drop (lo.getD 0)) sz (capBehind cap (lo.getD 0) mx)) else none
def reaches (gO:Nat→Option Ob) (o off len sz:Nat) (cap:Option Nat) (n:Nat):Bool :=
 decide (n≤len) || match cap with
  | some _=>false
  | none=>match gO o with
   | some ob=>decide (ob.sz=sz) && decide (0 < sz) && decide (off+n≤ob.els.length)
   | none=>false
def lslSlice (gO:Nat→Option Ob) (o off len sz:Nat) (cap:Option Nat) (te:Ty) (lo hi mx:Option Nat):Option D :=
 if decide (te.size=sz) && (mx.isNone || hi.isSome) && decide (lo.getD 0≤hi.getD len) && decide (hi.getD len≤mx.getD (hi.getD len)) && reaches gO o off len sz cap (mx.getD (hi.getD len)) then
  some (if lo.getD 0=hi.getD len then (if decide (lo.getD 0=0) && decide (0 < len) && mx.isNone then .lsl o off 0 sz cap else .sl false [] sz (capBehind cap (lo.getD 0) mx)) else .lsl o (off+lo.getD 0) (hi.getD len - lo.getD 0) sz (capBehind cap (lo.getD 0) mx)) else none
def sliceOf (C:Cfg) (gO:Nat→Option Ob) (t:TypeId) (x:D) (lo hi mx:Option Nat):Option D:=match C.ty t with
 | some ty=>match ty.kind with
  | .str=>strSlice x lo hi mx
  | .slice e=>match C.ty e with
   | some te=>match x with
    | .sl nl els sz cap=>slSlice nl els sz cap te lo hi mx
    | .lsl o off len sz cap=>lslSlice gO o off len sz cap te lo hi mx
    | _=>none
   | none=>none
  | _=>none
 | none=>none
def evSlice (C:Cfg) (objs:List (Nat × Ob)) (nxt:Nat) (t:TypeId) (x:D) (lo hi mx:Option D):Option Out:=match optBound lo,optBound hi,optBound mx with
 | some l,some h,some m=>match sliceOf C (zB objs) t x l h m with
  | some d=>some ⟨d,[],rdOf x,nxt⟩
  | none=>none
 | _,_,_=>none
def fieldOf (C:Cfg) (s:TypeId) (f:Nat):Option (Ty × Nat):=match C.ty s with
 | some ty=>match ty.kind with
  | .struct fs=>match fs[f]? with
   | some (t,off)=>match C.ty t with
    | some tf=>some (tf,off)
    | none=>none
   | none=>none
  | _=>none
 | none=>none
def evFieldAddr (C:Cfg) (nxt:Nat) (s:TypeId) (x:D) (f:Nat):Option Out:=match fieldOf C s f with
 | some (tf,off)=>if tf.size=0 then none else match x with
  | .ptr d=>match partD tf off d with | some e=>just nxt (.ptr e) | none=>none
  | .lref o i sz sub=>just nxt (.lref o i sz (sub+off))
  | _=>none
 | none=>none
def evField (C:Cfg) (nxt:Nat) (s:TypeId) (x:D) (f:Nat):Option Out:=match fieldOf C s f with
 | some (tf,off)=>match x with
  | .agg cs=>justO nxt (partD tf off (.agg cs))
  | _=>none
 | none=>none
def ixSlice (te:Ty) (nxt:Nat) (x:D) (i:Nat):Option Out:=match x with
 | .sl nl els sz _=>if !nl && decide (te.size=sz) then match els[i]? with | some d=>just nxt (.ptr d) | none=>none else none
 | .lsl o off len sz _=>if decide (te.size=sz) && decide (i < len) then just nxt (.lref o (off+i) sz 0) else none
 | _=>none
def ixArr (te:Ty) (nxt n:Nat) (x:D) (i:Nat):Option Out:=if i < n then match x with
  | .lref o k sz sub=>just nxt (.lref o k sz (sub+i * te.size))
  | .ptr d=>match partD te (i * te.size) d with | some e=>just nxt (.ptr e) | none=>none
  | _=>none
 else none
def evIndexAddr (C:Cfg) (nxt:Nat) (t:TypeId) (x ix:D):Option Out:=match C.ty t,intOfD ix with
 | some ty,some i=>if 0≤i then match ty.kind with
   | .slice e=>match C.ty e with
    | some te=>ixSlice te nxt x i.toNat
    | none=>none
   | .arr n e=>match C.ty e with
    | some te=>ixArr te nxt n x i.toNat
    | none=>none
   | _=>none
  else none
 | _,_=>none
def ixVal (te:Ty) (nxt n:Nat) (x:D) (i:Nat):Option Out:=match x with
 | .agg cs=>if i < n then justO nxt (partD te (i * te.size) (.agg cs)) else none
 | _=>none
def ixStr (nxt:Nat) (x:D) (i:Nat):Option Out:=match x with
 | .val v=>match v with
  | .string s=>match s[i]? with | some b=>just nxt (.val (.int .u8 b.toNat)) | none=>none
  | _=>none
 | _=>none
def evIndex (C:Cfg) (nxt:Nat) (t:TypeId) (x ix:D):Option Out:=match C.ty t,intOfD ix with
 | some ty,some i=>if 0≤i then match ty.kind with
   | .arr n e=>match C.ty e with
    | some te=>ixVal te nxt n x i.toNat
    | none=>none
   | .str=>ixStr nxt x i.toNat
   | _=>none
  else none
 | _,_=>none
def evExtract (nxt:Nat) (x:D) (i:Nat):Option Out:=match x with
 | .tup ds=>match ds[i]? with | some d=>just nxt d | none=>none
 | _=>none
def isConstO (x:Operand):Bool:=match x with
 | .const _=>true
 | _=>false
def argP (C:Cfg) (gT:Nat→D) (p:Nat × Operand):Nat × D:=(p.1,zQ C gT p.2)
def evOp (C:Cfg) (S:Sm) (gT:Nat→D) (objs:List (Nat × Ob)) (nxt:Nat) (o:Oper):Option Out :=
 match o.op with
 | .move x=>just nxt (zQ C gT x)
 | .assign x=>just nxt (zQ C gT x)
 | .pick c a b=>evPick nxt (zQ C gT c) (zQ C gT a) (zQ C gT b)
 | .alloc e=>evAlloc C nxt e
 | .box _ x=>evBox nxt (zQ C gT x)
 | .build t ps=>justO nxt (buildD C t (ps.toList.map (argP C gT)))
 | .buildSlice t len ps=>evBuildSlice C nxt t len (ps.toList.map (argP C gT))
 | .load t a=>evLoad C objs nxt t (zQ C gT a)
 | .store t a x=>evStore C objs nxt t (zQ C gT a) (zQ C gT x)
 | .nilCheck x=>evNilCheck nxt (zQ C gT x)
 | .binOp op t x y _=>justO nxt (binD C t (isConstO x || isConstO y) op (zQ C gT x) (zQ C gT y))
 | .unOp op _ x=>justO nxt (unD op (zQ C gT x))
 | .convert s d x=>justO nxt (convD C s d (zQ C gT x))
 | .makeInterface t x=>evMakeInterface C nxt t (zQ C gT x)
 | .makeFunc f first captured=>just nxt (.fn f (first.toList.map (zQ C gT)) (captured.toList.map (zQ C gT)))
 | .makeSlice t l c=>evMakeSlice C nxt t (zQ C gT l) (zQ C gT c)
 | .slice t x lo hi mx=>evSlice C objs nxt t (zQ C gT x) (lo.map (zQ C gT)) (hi.map (zQ C gT)) (mx.map (zQ C gT))
 | .fieldAddr s x f=>evFieldAddr C nxt s (zQ C gT x) f
 | .field s x f=>evField C nxt s (zQ C gT x) f
 | .indexAddr t x ix=>evIndexAddr C nxt t (zQ C gT x) (zQ C gT ix)
 | .index t x ix=>evIndex C nxt t (zQ C gT x) (zQ C gT ix)
 | .extract x i=>evExtract nxt (zQ C gT x) i
 | .call c=>callD C S gT objs nxt c
 | _=>none

def wantD (ops:Array Oper) (gT:Nat→D):Option (Nat × Bool)→Option Bool
 | none=>some true
 | some (j,want)=>match (ops[j]?).bind (·.dst) with
  | some t=>match gT t with
   | .val (.bool b)=>some (b == want)
   | .tup []=>some false
   | _=>none
  | none=>some false

def evOps (C:Cfg) (S:Sm) (ops:Array Oper):List Oper→St→Option St
 | [],st=>some st
 | o::l,st=>match wantD ops (get st.tmps) o.guard with
  | some true=>match evOp C S (get st.tmps) st.objs st.nxt o with
   | some r=>evOps C S ops l ⟨st.n,putT st.n st.tmps o.dst r.d,applyUpd r.wr st.objs,r.nxt,st.pin⟩
   | none=>none
  | some false=>evOps C S ops l ⟨st.n,putT st.n st.tmps o.dst (.tup []),st.objs,st.nxt,st.pin⟩
  | none=>none

abbrev Trace:=List (List Nat × List Nat)
def evOpsT (C:Cfg) (S:Sm) (ops:Array Oper):List Oper→St→Option (St × Trace)
 | [],st=>some (st,[])
 | o::l,st=>match wantD ops (get st.tmps) o.guard with
  | some true=>match evOp C S (get st.tmps) st.objs st.nxt o with
   | some r=>match evOpsT C S ops l ⟨st.n,putT st.n st.tmps o.dst r.d,applyUpd r.wr st.objs,r.nxt,st.pin⟩ with
    | some (st',tr)=>some (st',(r.rd,r.wr.map (·.1))::tr)
    | none=>none
   | none=>none
  | some false=>match evOpsT C S ops l ⟨st.n,putT st.n st.tmps o.dst (.tup []),st.objs,st.nxt,st.pin⟩ with
   | some (st',tr)=>some (st',([],[])::tr)
   | none=>none
  | none=>none
def apartB:List Nat→List Nat→Bool
 | [],_=>true
 | a::r,l=>!l.contains a && apartB r l
def befs (acc:Array Nat):List Oper→Array Nat
 | []=>acc
 | o::r=>befs (acc.push (o.after.toList.foldl (fun s e=>if Region.binds .any e then s ||| 2 ^ e.on ||| acc.getD e.on 0 else s) 0)) r
def ordered (b:Array Nat) (i j:Nat):Bool:=if i < j then (b.getD j 0).testBit i else (b.getD i 0).testBit j
def rowOK (b:Array Nat) (j:Nat) (wj:List Nat):Nat→Trace→Bool
 | _,[]=>true
 | i,(ri,wi)::r=>(decide (i=j) || (apartB wj ri && apartB wj wi) || ordered b i j) && rowOK b j wj (i+1) r
def rowsOK (b:Array Nat) (tr:Trace):Nat→Trace→Bool
 | _,[]=>true
 | j,(_,[])::r=>rowsOK b tr (j+1) r
 | j,(_,w::ws)::r=>rowOK b j (w::ws) 0 tr && rowsOK b tr (j+1) r
def traceOK (ops:Array Oper) (tr:Trace):Bool:=rowsOK (befs #[] ops.toList) tr 0 tr
def namesOf (ops:Array Oper) (o:Oper):List Tmp :=
 o.dst.toList++(o.op.operands.toList.filterMap fun | .tmp t=>some t | _=>none)++(match o.guard with | some (g,_)=>((ops[g]?).bind (·.dst)).toList | none=>[])
def writersOK (b:Array Nat) (i:Nat) (ns:List Tmp):Nat→List Oper→Bool
 | _,[]=>true
 | j,o::r=>(match o.dst with | some d=>decide (i=j) || !ns.contains d || ordered b i j | none=>true) && writersOK b i ns (j+1) r
def opsOK (ops:Array Oper) (b:Array Nat):Nat→List Oper→Bool
 | _,[]=>true
 | i,o::r=>o.after.toList.all (fun e=>!Region.binds .any e || decide (e.on < i)) && writersOK b i (namesOf ops o) 0 ops.toList && opsOK ops b (i+1) r
def regOK (ops:Array Oper):Bool:=opsOK ops (befs #[] ops.toList) 0 ops.toList

def placeOf (live:List Nat) (o:Nat):Option Nat:=match live with
 | []=>none
 | x::r=>bif eqb x o then some 0 else match placeOf r o with | some k=>some (k+1) | none=>none
def renN (pin:Nat) (live:List Nat) (o:Nat):Option Nat :=
 bif ltb o pin then some o else match placeOf live o with | some k=>some (pin+k) | none=>none
def renD (ρ:Nat→Option Nat):Nat→D→D
 | 0,_=>.unk
 | f+1,d=>match d with
  | .lref o i sz sub=>match ρ o with | some o'=>.lref o' i sz sub | none=>.unk
  | .lsl o off len sz cap=>match ρ o with | some o'=>.lsl o' off len sz cap | none=>.unk
  | .agg cs=>.agg (cs.map (renD ρ f))
  | .tup cs=>.tup (cs.map (renD ρ f))
  | .fn g a b=>.fn g (a.map (renD ρ f)) (b.map (renD ρ f))
  | .iface t d=>.iface t (renD ρ f d)
  | .yld o=>match ρ o with | some o'=>.yld o' | none=>.unk
  | .unk=>.unk
  | .val v=>.val v
  | .sl nl els sz cap=>.sl nl els sz cap
  | .ptr d=>.ptr d
def keepT:List Nat→List (Nat × D)→List (Nat × D)
 | [],_=>[]
 | k::ks,l=>(k,get l k)::keepT ks l
def renT (ρ:Nat→Option Nat):List (Nat × D)→List (Nat × D)
 | []=>[]
 | (k,d)::r=>(k,renD ρ fuelD d)::renT ρ r
def renOb (ρ:Nat→Option Nat) (ob:Ob):Ob:=⟨ob.els.map (renD ρ fuelD),ob.sz,ob.froz⟩
def renO (ρ:Nat→Option Nat) (objs:List (Nat × Ob)):Nat→List Nat→List (Nat × Ob)
 | _,[]=>[]
 | k,o::r=>match zB objs o with
  | some ob=>(k,renOb ρ ob)::renO ρ objs (k+1) r
  | none=>renO ρ objs (k+1) r
def pinO (ρ:Nat→Option Nat) (pin:Nat):List (Nat × Ob)→List (Nat × Ob)
 | []=>[]
 | (k,ob)::r=>bif ltb k pin then (k,renOb ρ ob)::pinO ρ pin r else pinO ρ pin r
def rootsT:List (Nat × D)→Option (List Nat)
 | []=>some []
 | (_,d)::r=>match idsD fuelD d,rootsT r with
  | some a,some b=>some (a++b)
  | _,_=>none
def rootsO (pin:Nat):List (Nat × Ob)→Option (List Nat)
 | []=>some []
 | (k,ob)::r=>bif ltb k pin then match idsL (idsD fuelD) ob.els,rootsO pin r with
   | some a,some b=>some (a++b)
   | _,_=>none
  else rootsO pin r
def fromPin (pin:Nat):List Nat→List Nat
 | []=>[]
 | o::r=>bif ltb o pin then fromPin pin r else o::fromPin pin r
def gcWith (ks live:List Nat) (st:St):St :=
 ⟨st.n,renT (renN st.pin live) (keepT ks st.tmps),pinO (renN st.pin live) st.pin st.objs++renO (renN st.pin live) st.objs st.pin live,st.pin+live.length,st.pin⟩
def gc0 (ks:List Nat) (st:St):Option St :=
 match rootsT (keepT ks st.tmps),rootsO st.pin st.objs with
 | some a,some b=>match ze st.objs 256 (a++b) [] with
  | some live=>some (gcWith ks (fromPin st.pin live) st)
  | none=>none
 | _,_=>none

def deepD (gO:Nat→Option Ob) (d:D):D:=match d with
 | .lref o i sz sub=>match snap gO fuelD (.lref o i sz sub) with | some (e,_)=>e | none=>.lref o i sz sub
 | d=>d
def deepI (gO:Nat→Option Ob) (d:D):List Nat:=match d with
 | .lref o i sz sub=>match snap gO fuelD (.lref o i sz sub) with | some (_,r)=>r | none=>[]
 | _=>[]
def catI (g:D→List Nat):List D→List Nat
 | []=>[]
 | d::ds=>g d++catI g ds
def deepA (gO:Nat→Option Ob) (d:D):D:=match d with
 | .agg cs=>.agg (cs.map (deepD gO))
 | d=>d
def deepAI (gO:Nat→Option Ob) (d:D):List Nat:=match d with
 | .agg cs=>catI (deepI gO) cs
 | _=>[]
def deepSl (gO:Nat→Option Ob) (d:D):D:=match snap gO fuelD d with | some (e,_)=>e | none=>d
def deepSlI (gO:Nat→Option Ob) (d:D):List Nat:=match snap gO fuelD d with | some (_,r)=>r | none=>[]
def deepEl (gO:Nat→Option Ob) (d:D):D:=match d with
 | .agg cs=>.agg (cs.map (deepD gO))
 | .lsl o off len sz cap=>deepSl gO (.lsl o off len sz cap)
 | d=>deepD gO d
def deepElI (gO:Nat→Option Ob) (d:D):List Nat:=match d with
 | .agg cs=>catI (deepI gO) cs
 | .lsl o off len sz cap=>deepSlI gO (.lsl o off len sz cap)
 | d=>deepI gO d
def deepT (gO:Nat→Option Ob):List (Nat × D)→List (Nat × D)
 | []=>[]
 | (k,d)::r=>(k,deepA gO d)::deepT gO r
def deepTI (gO:Nat→Option Ob):List (Nat × D)→List Nat
 | []=>[]
 | (_,d)::r=>deepAI gO d++deepTI gO r
def deepO (gO:Nat→Option Ob) (ids:List Nat):List (Nat × Ob)→List (Nat × Ob)
 | []=>[]
 | (k,ob)::r=>(k,⟨ob.els.map (deepEl gO),ob.sz,bif memN k ids then true else ob.froz⟩)::deepO gO ids r
def deepOI (gO:Nat→Option Ob):List (Nat × Ob)→List Nat
 | []=>[]
 | (_,ob)::r=>catI (deepElI gO) ob.els++deepOI gO r
def deepen (st:St):St :=
 ⟨st.n,deepT (zB st.objs) st.tmps,deepO (zB st.objs) (deepTI (zB st.objs) st.tmps++deepOI (zB st.objs) st.objs) st.objs,st.nxt,st.pin⟩
def gc (ks:List Nat) (st:St):Option St:=match ks with
 | []=>gc0 [] st
 | k::ks=>bif eqb k 1000000 then gc0 ks (deepen ⟨st.n,keepT ks st.tmps,st.objs,st.nxt,st.pin⟩) else gc0 (k::ks) st

def firstRegion:Code→Nat
 | .region id _ _=>id
 | .seq a _=>firstRegion a
 | .block _ a=>firstRegion a
 | .loop a=>firstRegion a
 | .scope a=>firstRegion a
 | _=>0

def noDefer:List Oper→Bool
 | []=>true
 | o::r=>(match o.op with | .defer _=>false | _=>true) && noDefer r
def noRange:Code→Bool
 | .rangeFunc _ _ _ _=>false
 | .region _ ops _=>noDefer ops.toList
 | .seq a b=>noRange a && noRange b
 | .cond _ a b=>noRange a && noRange b
 | .block _ a=>noRange a
 | .loop a=>noRange a
 | .scope a=>noRange a
 | _=>true

def exitOf:Option Code→Option Exit
 | none=>some .normal
 | some .ret=>some .ret
 | some (.exit id)=>some (.exit id)
 | _=>none
def yo (C:Cfg) (S:Sm) (f:FuncId):Code→St→Option (Exit × St)
 | .skip,st=>some (.normal,st)
 | .label _,st=>some (.normal,st)
 | .ret,st=>some (.ret,st)
 | .exit id,st=>some (.exit id,st)
 | .region _ ops draw,st=>if draw then
   match evOpsT C S ops ops.toList st with
   | some (st',tr)=>if regOK ops && traceOK ops tr then some (.normal,st') else none
   | none=>none
  else match evOps C S ops ops.toList st with
   | some st'=>some (.normal,st')
   | none=>none
 | .seq a b,st=>match yo C S f a st with
  | some (.normal,st')=>yo C S f b st'
  | r=>r
 | .cond c a b,st=>match zQ C (get st.tmps) c with
  | .val (.bool t)=>if t then yo C S f a st else yo C S f b st
  | _=>none
 | .block id a,st=>match yo C S f a st with
  | some (.exit id',st')=>if id'=id then some (.normal,st') else some (.exit id',st')
  | r=>r
 | .loop a,st=>match gc (C.keep f (firstRegion a)) st with
  | some st=>S.loop f a st
  | none=>none
 | .scope a,st=>match yo C S f a st with
  | some (.goto _,_)=>none
  | r=>r
 | .rangeFunc g ps assign body,st=>if noRange assign && noRange body then match zQ C (get st.tmps) g with
   | .fn (.func K) first captured=>match C.fn K with
    | some _=>match S.iter ⟨f,st.nxt,st.n,st.tmps,ps.toList,assign,body⟩ K (first++[.yld st.nxt]++captured) st.objs (st.nxt+1) with
     | some (objs',nxt',p)=>match exitOf p with
      | some e=>some (e,⟨st.n,st.tmps,objs',nxt',st.pin⟩)
      | none=>none
     | none=>none
    | none=>none
   | _=>none
  else none
 | _,_=>none

def putPs (n:Nat):List Tmp→List D→List (Nat × D)→List (Nat × D)
 | t::ts,d::ds,l=>putPs n ts ds (putT n l (some t) d)
 | _,_,l=>l
def evRound (C:Cfg) (S:Sm) (R:Rnd) (args:List D) (objs:List (Nat × Ob)) (nxt:Nat):Option (Exit × St) :=
 if eqb R.ps.length args.length then match yo C S R.f R.assign ⟨R.n,putPs R.n R.ps args R.tmps,objs,nxt,nxt⟩ with
  | some (.normal,st)=>yo C S R.f R.body st
  | _=>none
 else none
def yldOf (C:Cfg) (gT:Nat→D) (y:Nat) (o:Oper):Option (List Operand):=match o.op with
 | .call c=>match c.callee with
  | .value f=>match zQ C gT f with
   | .yld k=>bif eqb k y then some c.args.toList else none
   | _=>none
  | _=>none
 | _=>none
def evOpsY (C:Cfg) (S:Sm) (R:Rnd) (ops:Array Oper):List Oper→St→Option (St × Option Code)
 | [],st=>some (st,none)
 | o::l,st=>match wantD ops (get st.tmps) o.guard with
  | some true=>match yldOf C (get st.tmps) R.y o with
   | some args=>match evRound C S R (args.map (zQ C (get st.tmps))) st.objs st.nxt with
    | some (.normal,s)=>evOpsY C S R ops l ⟨st.n,putT st.n st.tmps o.dst (B true),s.objs,s.nxt,st.pin⟩
    | some (.ret,s)=>match evOps C S ops l ⟨st.n,putT st.n st.tmps o.dst (B false),s.objs,s.nxt,st.pin⟩ with
     | some st'=>some (st',some Code.ret)
     | none=>none
    | some (.exit id,s)=>match evOps C S ops l ⟨st.n,putT st.n st.tmps o.dst (B false),s.objs,s.nxt,st.pin⟩ with
     | some st'=>some (st',some (Code.exit id))
     | none=>none
    | _=>none
   | none=>match evOp C S (get st.tmps) st.objs st.nxt o with
    | some r=>evOpsY C S R ops l ⟨st.n,putT st.n st.tmps o.dst r.d,applyUpd r.wr st.objs,r.nxt,st.pin⟩
    | none=>none
  | some false=>evOpsY C S R ops l ⟨st.n,putT st.n st.tmps o.dst (.tup []),st.objs,st.nxt,st.pin⟩
  | none=>none
def withP (p:Option Code) (r:Option (Exit × St)):Option (Exit × St × Option Code):=match r with
 | some (e,st)=>some (e,st,p)
 | none=>none
def evCodeY (C:Cfg) (S:Sm) (R:Rnd) (f:FuncId):Code→St→Option (Exit × St × Option Code)
 | .skip,st=>some (.normal,st,none)
 | .label _,st=>some (.normal,st,none)
 | .ret,st=>some (.ret,st,none)
 | .exit id,st=>some (.exit id,st,none)
 | .region id ops draw,st=>if draw then withP none (yo C S f (.region id ops draw) st)
  else match evOpsY C S R ops ops.toList st with
   | some (st',p)=>some (.normal,st',p)
   | none=>none
 | .seq a b,st=>match evCodeY C S R f a st with
  | some (.normal,st',none)=>evCodeY C S R f b st'
  | some (.normal,st',some p)=>withP (some p) (yo C S f b st')
  | r=>r
 | .cond c a b,st=>match zQ C (get st.tmps) c with
  | .val (.bool t)=>if t then evCodeY C S R f a st else evCodeY C S R f b st
  | _=>none
 | .block id a,st=>match evCodeY C S R f a st with
  | some (.exit id',st',p)=>if id'=id then some (.normal,st',p) else some (.exit id',st',p)
  | r=>r
 | .loop a,st=>match gc (C.keep f (firstRegion a)) st with
  | some st=>S.loopY R f a st
  | none=>none
 | .scope a,st=>match evCodeY C S R f a st with
  | some (.goto _,_,_)=>none
  | r=>r
 | _,_=>none

def number (k:Nat):List D→List (Nat × D)
 | []=>[]
 | d::r=>(k,d)::number (k+1) r
def resOf (C:Cfg) (st:St):ResultVar→Option D
 | .tmp t=>some (get st.tmps t)
 | .cell a t=>match C.ty t,get st.tmps a with
  | some ty,.lref o i sz sub=>match zB st.objs o with
   | some ob=>if ob.sz=sz then match ob.els[i]? with | some e=>partD ty sub e | none=>none else none
   | none=>none
  | _,_=>none
def resAll (C:Cfg) (st:St):List ResultVar→Option (List D)
 | []=>some []
 | r::l=>match resOf C st r,resAll C st l with
  | some d,some ds=>some (d::ds)
  | _,_=>none
def tupOf:List D→D
 | [d]=>d
 | ds=>.tup ds
def runFn (C:Cfg) (S:Sm) (K:FuncId) (args:List D) (objs:List (Nat × Ob)) (nxt:Nat):Option (D × List (Nat × Ob) × Nat) :=
 match C.fn K with
 | some fn=>match fn.body with
  | some c=>match yo C S K c ⟨max fn.ntmps args.length,number 0 args,objs,nxt,nxt⟩ with
   | some (.normal,st)=>match resAll C st fn.results.toList with | some ds=>some (tupOf ds,st.objs,st.nxt) | none=>none
   | some (.ret,st)=>match resAll C st fn.results.toList with | some ds=>some (tupOf ds,st.objs,st.nxt) | none=>none
   | _=>none
  | none=>none
 | none=>none
def runInl (C:Cfg) (S:Sm) (K:FuncId) (args:List D) (objs:List (Nat × Ob)) (nxt:Nat):Option (D × List (Nat × Ob) × Nat) :=
 match C.xinl K with
 | some g=>g args objs nxt
 | none=>runFn C S K args objs nxt
def runPure (C:Cfg) (S:Sm) (K:FuncId) (args:List D):Option D :=
 match C.ext K with
 | some g=>g args
 | none=>match runFn C S K args [] 0 with
  | some (d,objs,_)=>match snap (zB objs) fuelD d with | some (d,_)=>some d | none=>none
  | none=>none
def runLoop (C:Cfg) (S:Sm) (f:FuncId) (a:Code) (st:St):Option (Exit × St) :=
 match yo C S f a st with
 | some (.normal,st')=>match gc (C.keep f (firstRegion a)) st' with
  | some st'=>S.loop f a st'
  | none=>none
 | r=>r
def runLoopY (C:Cfg) (S:Sm) (R:Rnd) (f:FuncId) (a:Code) (st:St):Option (Exit × St × Option Code) :=
 match evCodeY C S R f a st with
 | some (.normal,st',none)=>match gc (C.keep f (firstRegion a)) st' with
  | some st'=>S.loopY R f a st'
  | none=>none
 | some (.normal,st',some p)=>match gc (C.keep f (firstRegion a)) st' with
  | some st'=>withP (some p) (S.loop f a st')
  | none=>none
 | r=>r
def finY (C:Cfg) (fn:Func) (st:St) (p:Option Code):Option (List (Nat × Ob) × Nat × Option Code):=match resAll C st fn.results.toList with
 | some _=>some (st.objs,st.nxt,p)
 | none=>none
def runIter (C:Cfg) (S:Sm) (R:Rnd) (K:FuncId) (args:List D) (objs:List (Nat × Ob)) (nxt:Nat):Option (List (Nat × Ob) × Nat × Option Code) :=
 match C.fn K with
 | some fn=>match fn.body with
  | some c=>match evCodeY C S R K c ⟨max fn.ntmps args.length,number 0 args,objs,nxt,nxt⟩ with
   | some (.normal,st,p)=>finY C fn st p
   | some (.ret,st,p)=>finY C fn st p
   | _=>none
  | none=>none
 | none=>none
def sem (C:Cfg):Nat→Sm
 | 0=>⟨fun _ _=>none,fun _ _ _ _=>none,fun _ _ _=>none,fun _ _ _ _=>none,fun _ _ _ _ _=>none⟩
 | n+1=>⟨fun K args=>runPure C (sem C n) K args,fun K args objs nxt=>runInl C (sem C n) K args objs nxt,fun f a st=>runLoop C (sem C n) f a st,
  fun R f a st=>runLoopY C (sem C n) R f a st,fun R K args objs nxt=>runIter C (sem C n) R K args objs nxt⟩
end Go.VS

namespace Go.VS
open Go Go.RowKit

abbrev Mem:=Nat→Nat→Option Value
abbrev Loc:=Nat→Option (Nat × Nat)

def MemAt (M:Mem) (b o:Nat) (cs:Array Value):Prop:=∀ j u,cs[j]?=some u→M b (o+j)=some u
def noLoc:Loc:=fun _=>none

mutual
def Rep (M:Mem) (m:Loc):D→Value→Prop
 | .unk,_=>True
 | .val u,v=>v=u
 | .agg ds,v=>∃ vs:Array Value,v=.agg vs∧zU M m ds vs.toList
 | .tup ds,v=>∃ vs:Array Value,v=.tuple vs∧zU M m ds vs.toList
 | .sl nl els sz cap,v=>(nl=true→els=[]∧v=.slice none 0 0) ∧
   (nl=false→∃ b o sp c,v=.slice (some ⟨b,o,sp⟩) els.length c∧(els ≠ []→sp=none)∧els.length≤c∧c≤maxLen∧(∀ k,cap=some k→c=k)∧RepE M els sz b o)
 | .ptr d,v=>∃ b o u,v=.pointer (some ⟨b,o,none⟩)∧Rep M noLoc d u∧MemAt M b o u.cells
 | .lref o i sz sub,v=>∃ b s,m o=some (b,s)∧v=.pointer (some ⟨b,i * sz+sub,none⟩)
 | .lsl o off len sz cap,v=>∃ b s c,m o=some (b,s)∧v=.slice (some ⟨b,off * sz,none⟩) len c∧len≤c∧c≤maxLen∧(off+c) * sz≤s ∧
   (∀ k,cap=some k→c=k)∧(cap=none→(off+c) * sz=s)
 | .fn f a b,v=>∃ xs ys:Array Value,v=.func f xs ys∧zU M m a xs.toList∧zU M m b ys.toList
 | .iface t d,v=>∃ u,v=.iface t u∧Rep M m d u
 | .yld k,v=>∃ l s,m k=some (l,s)∧v=.func (.yield l) #[] #[]
def zU (M:Mem) (m:Loc):List D→List Value→Prop
 | [],vs=>vs=[]
 | d::ds,vs=>∃ v r,vs=v::r∧Rep M m d v∧zU M m ds r
def RepE (M:Mem):List D→Nat→Nat→Nat→Prop
 | [],_,_,_=>True
 | d::ds,sz,b,o=>(∃ u,Rep M noLoc d u∧u.cells.size=sz∧MemAt M b o u.cells)∧RepE M ds sz b (o+sz)
end

def MLe (M M':Mem):Prop:=∀ b o v,M b o=some v→M' b o=some v
def mLe (m m':Loc):Prop:=∀ o x,m o=some x→m' o=some x
theorem MLe.refl (M:Mem):MLe M M:=fun _ _ _ h=>h
theorem MLe.trans {A B C:Mem} (h:MLe A B) (k:MLe B C):MLe A C:=fun b o v x=>k b o v (h b o v x)
theorem mLe.refl (m:Loc):mLe m m:=fun _ _ h=>h
theorem mLe.trans {a b c:Loc} (h:mLe a b) (k:mLe b c):mLe a c:=fun o x y=>k o x (h o x y)
theorem MemAt.mono {M M':Mem} (h:MLe M M') {b o:Nat} {cs:Array Value} (x:MemAt M b o cs):MemAt M' b o cs:=fun j u hu=>h _ _ _ (x j u hu)

mutual
theorem Rep.mono {M M':Mem} {m m':Loc} (hM:MLe M M') (hm:mLe m m'):∀ {d:D} {v:Value},Rep M m d v→Rep M' m' d v
 | .unk,_,_=>by simp [Rep]
 | .val u,_,h=>by simpa [Rep] using h
 | .agg ds,_,h=>by
  simp only [Rep] at h ⊢
  obtain ⟨vs,h1,h2⟩:=h
  exact ⟨vs,h1,zU.mono hM hm h2⟩
 | .tup ds,_,h=>by
  simp only [Rep] at h ⊢
  obtain ⟨vs,h1,h2⟩:=h
  exact ⟨vs,h1,zU.mono hM hm h2⟩
 | .sl nl els sz cap,_,h=>by
  simp only [Rep] at h ⊢
  refine ⟨h.1,fun hn=>?_⟩
  obtain ⟨b,o,sp,c,h1,hs,h2,h3,h4,h5⟩:=h.2 hn
  exact ⟨b,o,sp,c,h1,hs,h2,h3,h4,RepE.mono hM h5⟩
 | .ptr d,_,h=>by
  simp only [Rep] at h ⊢
  obtain ⟨b,o,u,h1,h2,h3⟩:=h
  exact ⟨b,o,u,h1,Rep.mono hM (mLe.refl _) h2,h3.mono hM⟩
 | .lref o i sz sub,_,h=>by
  simp only [Rep] at h ⊢
  obtain ⟨b,s,h1,h2⟩:=h
  exact ⟨b,s,hm _ _ h1,h2⟩
 | .lsl o off len sz cap,_,h=>by
  simp only [Rep] at h ⊢
  obtain ⟨b,s,c,h1,h2⟩:=h
  exact ⟨b,s,c,hm _ _ h1,h2⟩
 | .fn f a b,_,h=>by
  simp only [Rep] at h ⊢
  obtain ⟨xs,ys,h1,h2,h3⟩:=h
  exact ⟨xs,ys,h1,zU.mono hM hm h2,zU.mono hM hm h3⟩
 | .iface t d,_,h=>by
  simp only [Rep] at h ⊢
  obtain ⟨u,h1,h2⟩:=h
  exact ⟨u,h1,Rep.mono hM hm h2⟩
 | .yld k,_,h=>by
  simp only [Rep] at h ⊢
  obtain ⟨l,s,h1,h2⟩:=h
  exact ⟨l,s,hm _ _ h1,h2⟩
theorem zU.mono {M M':Mem} {m m':Loc} (hM:MLe M M') (hm:mLe m m'):∀ {ds:List D} {vs:List Value},zU M m ds vs→zU M' m' ds vs
 | [],_,h=>by simpa [zU] using h
 | d::ds,_,h=>by
  simp only [zU] at h ⊢
  obtain ⟨v,r,h1,h2,h3⟩:=h
  exact ⟨v,r,h1,Rep.mono hM hm h2,zU.mono hM hm h3⟩
theorem RepE.mono {M M':Mem} (hM:MLe M M'):∀ {ds:List D} {sz b o:Nat},RepE M ds sz b o→RepE M' ds sz b o
 | [],_,_,_,_=>by simp [RepE]
 | d::ds,sz,b,o,h=>by
  simp only [RepE] at h ⊢
  obtain ⟨⟨u,h1,h2,h3⟩,h4⟩:=h
  exact ⟨⟨u,Rep.mono hM (mLe.refl _) h1,h2,h3.mono hM⟩,RepE.mono hM h4⟩
end

theorem zU.length {M:Mem} {m:Loc}:∀ {ds:List D} {vs:List Value},zU M m ds vs→vs.length=ds.length
 | [],_,h=>by simp only [zU] at h; simp [h]
 | d::ds,_,h=>by
  simp only [zU] at h
  obtain ⟨v,r,rfl,_,h3⟩:=h
  simp [zU.length h3]
theorem zU.get {M:Mem} {m:Loc}:∀ {ds:List D} {vs:List Value},zU M m ds vs→∀ {i:Nat} {d:D},ds[i]?=some d→∃ v,vs[i]?=some v∧Rep M m d v
 | [],_,_,i,d,hi=>by simp at hi
 | e::ds,_,h,i,d,hi=>by
  simp only [zU] at h
  obtain ⟨v,r,rfl,h2,h3⟩:=h
  cases i with
  | zero=>simp at hi; subst hi; exact ⟨v,by simp,h2⟩
  | succ i=>simp at hi ⊢; exact zU.get h3 hi
theorem zU.take {M:Mem} {m:Loc}:∀ {ds:List D} {vs:List Value} (n:Nat),zU M m ds vs→zU M m (ds.take n) (vs.take n)
 | [],_,n,h=>by simp only [zU] at h; subst h; simp [zU]
 | d::ds,_,0,h=>by simp [zU]
 | d::ds,_,n+1,h=>by
  simp only [zU] at h
  obtain ⟨v,r,rfl,h2,h3⟩:=h
  simp only [List.take_succ_cons,zU]
  exact ⟨v,_,rfl,h2,zU.take n h3⟩
theorem zU.drop {M:Mem} {m:Loc}:∀ {ds:List D} {vs:List Value} (n:Nat),zU M m ds vs→zU M m (ds.drop n) (vs.drop n)
 | [],_,n,h=>by simp only [zU] at h; subst h; simp [zU]
 | d::ds,_,0,h=>by simpa using h
 | d::ds,_,n+1,h=>by
  simp only [zU] at h
  obtain ⟨v,r,rfl,h2,h3⟩:=h
  simpa using zU.drop n h3
theorem zU.append {M:Mem} {m:Loc}:∀ {ds es:List D} {vs us:List Value},zU M m ds vs→zU M m es us→zU M m (ds++es) (vs++us)
 | [],_,_,_,h,k=>by simp only [zU] at h; subst h; simpa using k
 | d::ds,_,_,_,h,k=>by
  simp only [zU] at h
  obtain ⟨v,r,rfl,h2,h3⟩:=h
  simp only [List.cons_append,zU]
  exact ⟨v,_,rfl,h2,zU.append h3 k⟩
theorem zU.ofGet {M:Mem} {m:Loc}:∀ {ds:List D} {vs:List Value},vs.length=ds.length→(∀ (i:Nat) (d:D) (v:Value),ds[i]?=some d→vs[i]?=some v→Rep M m d v)→zU M m ds vs
 | [],vs,hl,_=>by simp only [zU]; exact List.eq_nil_of_length_eq_zero (by simpa using hl)
 | d::ds,[],hl,_=>by simp at hl
 | d::ds,v::vs,hl,h=>by
  simp only [zU]
  exact ⟨v,vs,rfl,h 0 d v (by simp) (by simp),zU.ofGet (by simpa using hl) (fun i d' v' hd hv=>h (i+1) d' v' (by simpa using hd) (by simpa using hv))⟩

def plainV (v:Value):Prop:=v.cells=#[v]∧(∀ cs,v ≠ .agg cs)∧(∀ cs,v ≠ .tuple cs)
theorem plainV_of {v:Value} (h1:∀ cs,v ≠ .agg cs) (h2:∀ cs,v ≠ .tuple cs):plainV v:=by
 refine ⟨?_,h1,h2⟩
 cases v <;> first | rfl | exact absurd rfl (h1 _)
theorem Rep.one {M:Mem} {m:Loc} {d:D} {v:Value} (h:Rep M m d v) (ho:d.one=true):plainV v:=by
 cases d with
 | unk=>simp [D.one] at ho
 | val u =>
  simp only [Rep] at h; subst h
  refine plainV_of (fun cs e=>?_) (fun cs e=>?_) <;> (subst e; simp [D.one] at ho)
 | agg cs=>simp [D.one] at ho
 | tup cs=>simp [D.one] at ho
 | sl nl els sz cap =>
  simp only [Rep] at h
  cases nl with
  | true=>rw [(h.1 rfl).2]; exact plainV_of (by simp) (by simp)
  | false=>obtain ⟨b,o,sp,c,h1,_⟩:=h.2 rfl; rw [h1]; exact plainV_of (by simp) (by simp)
 | ptr d=>simp only [Rep] at h; obtain ⟨b,o,u,h1,_⟩:=h; rw [h1]; exact plainV_of (by simp) (by simp)
 | lref o i sz sub=>simp only [Rep] at h; obtain ⟨b,s,_,h1⟩:=h; rw [h1]; exact plainV_of (by simp) (by simp)
 | lsl o off len sz cap=>simp only [Rep] at h; obtain ⟨b,s,c,_,h1,_⟩:=h; rw [h1]; exact plainV_of (by simp) (by simp)
 | fn f a b=>simp only [Rep] at h; obtain ⟨xs,ys,h1,_⟩:=h; rw [h1]; exact plainV_of (by simp) (by simp)
 | iface t d=>simp only [Rep] at h; obtain ⟨u,h1,_⟩:=h; rw [h1]; exact plainV_of (by simp) (by simp)
 | yld k=>simp only [Rep] at h; obtain ⟨l,s,_,h1⟩:=h; rw [h1]; exact plainV_of (by simp) (by simp)
theorem allOne_get:∀ {cs:List D},allOne cs=true→∀ {i:Nat} {d:D},cs[i]?=some d→d.one=true
 | [],_,i,d,h=>by simp at h
 | c::cs,ha,i,d,h=>by
  simp only [allOne,Bool.and_eq_true] at ha
  cases i with
  | zero=>simp at h; subst h; exact ha.1
  | succ i=>exact allOne_get ha.2 (by simpa using h)
theorem D.agg_or (d:D):(∃ cs,d=.agg cs) ∨ (d.okCells=d.one∧d.cells=[d]∧∀ cs,d ≠ .agg cs):=by
 cases d <;> first | exact .inl ⟨_,rfl⟩ | exact .inr ⟨rfl,rfl,by simp⟩
theorem Rep.cells {M:Mem} {m:Loc} {d:D} {v:Value} (h:Rep M m d v) (ho:d.okCells=true) :
  zU M m d.cells v.cells.toList∧allOne d.cells=true∧∀ u∈v.cells.toList,plainV u:=by
 rcases d.agg_or with ⟨cs,rfl⟩ | ⟨h1,h2,_⟩
 ·simp only [Rep] at h
  obtain ⟨vs,rfl,h2⟩:=h
  simp only [D.okCells] at ho
  refine ⟨h2,ho,fun u hu=>?_⟩
  obtain ⟨i,hi⟩:=List.mem_iff_getElem?.1 hu
  have hlen:=h2.length
  have hlt:i < cs.length:=by
   have:=(List.getElem?_eq_some_iff.1 hi).1; simp only [Value.cells] at this; omega
  obtain ⟨v,hv,hr⟩:=h2.get (List.getElem?_eq_getElem hlt)
  simp only [Value.cells] at hi
  rw [hv] at hi; cases hi
  exact hr.one (allOne_get ho (List.getElem?_eq_getElem hlt))
 ·rw [h1] at ho
  have hp:=h.one ho
  rw [hp.1,h2]
  refine ⟨?_,by simpa [allOne] using ho,by simpa using hp⟩
  simp only [zU]
  exact ⟨v,[],rfl,h,rfl⟩
theorem Rep.cells_size {M:Mem} {m:Loc} {d:D} {v:Value} (h:Rep M m d v) (ho:d.okCells=true):v.cells.size=d.cells.length:=by
 have:=(h.cells ho).1.length
 simpa using this

theorem RepE.get {M:Mem}:∀ {ds:List D} {sz b o:Nat},RepE M ds sz b o→∀ {i:Nat} {d:D},ds[i]?=some d→∃ u,Rep M noLoc d u∧u.cells.size=sz∧MemAt M b (o+i * sz) u.cells
 | [],_,_,_,_,i,d,hi=>by simp at hi
 | e::ds,sz,b,o,h,i,d,hi=>by
  simp only [RepE] at h
  cases i with
  | zero=>simp at hi; subst hi; simpa using h.1
  | succ i =>
   obtain ⟨u,h1,h2,h3⟩:=RepE.get h.2 (i:=i) (d:=d) (by simpa using hi)
   refine ⟨u,h1,h2,?_⟩
   have:o+sz+i * sz=o+(i+1) * sz:=by rw [Nat.add_mul]; omega
   rwa [this] at h3
theorem RepE.ofGet {M:Mem}:∀ {ds:List D} {sz b o:Nat},(∀ (i:Nat) (d:D),ds[i]?=some d→∃ u,Rep M noLoc d u∧u.cells.size=sz∧MemAt M b (o+i * sz) u.cells)→RepE M ds sz b o
 | [],_,_,_,_=>by simp [RepE]
 | e::ds,sz,b,o,h=>by
  simp only [RepE]
  refine ⟨by simpa using h 0 e (by simp),RepE.ofGet fun i d hi=>?_⟩
  obtain ⟨u,h1,h2,h3⟩:=h (i+1) d (by simpa using hi)
  refine ⟨u,h1,h2,?_⟩
  have:o+sz+i * sz=o+(i+1) * sz:=by rw [Nat.add_mul]; omega
  rwa [this]
end Go.VS

namespace Go.VS
open Go Go.RowKit

structure CfgOK (C:Cfg):Prop where
 ty:∀ t ty,C.ty t=some ty→tyOf C.P t=some ty
 fn:∀ K f,C.fn K=some f→C.P.funcs[K]?=some f
 enter : ∀ K f, C.fn K = some f → f.body.isSome = true ∧ f.name ≠ "runtime.NumGoroutine"
 mixed:C.P.follows .mixedOrders=true
 eqok : ∀ t, C.eqok t = true → C.P.stoodInHeld t = false ∧ C.P.eqGuardType C.P.depth t = false ∧ ∀ fs, C.P.underlying t = some (.struct fs) → ∀ f ∈ fs.toList, f.name ≠ "_"

theorem tyOf_spec {P:Program} {t:TypeId} {ty:Ty} (h:tyOf P t=some ty) :
  ∃ i d,P.info? t=some i∧P.underlying t=some d∧i.zero=some ty.zero∧ty.kind=tkOf d∧ty.size=i.size∧ty.bytes=i.bytes:=by
 unfold tyOf at h
 split at h
 ·rename_i i d hi hd
  split at h
  ·rename_i z hz
   cases h
   exact ⟨i,d,hi,hd,hz,rfl,rfl,rfl⟩
  ·cases h
 ·cases h

section
variable {P:Program} {t:TypeId} {ty:Ty} {w:World}
theorem run_typeInfo' {i:TypeInfo} (hi:P.info? t=some i):(typeInfo t).run P w=.ok i w:=by simp [typeInfo,program,Sem.run,hi]
theorem zw {d:TypeDesc} (hd:P.underlying t=some d):(underlying t).run P w=.ok d w:=by simp [underlying,program,Sem.run,hd]
theorem run_isAgg' (h:tyOf P t=some ty):(isAgg t).run P w=.ok ty.isAgg w:=by
 obtain ⟨i,d,hi,hd,hz,hk,hs,hb⟩:=tyOf_spec h
 simp only [isAgg,Sem.run_bind,zw hd,Result.andThen_ok,Ty.isAgg,hk]
 cases d <;> simp [tkOf]
theorem run_sizeOf' (h:tyOf P t=some ty):(sizeOf t).run P w=.ok ty.size w:=by
 obtain ⟨i,d,hi,hd,hz,hk,hs,hb⟩:=tyOf_spec h
 simp [sizeOf,run_typeInfo' hi,hs]
theorem run_zeroValue' (h:tyOf P t=some ty):(zeroValue t).run P w=.ok ty.zero w:=by
 obtain ⟨i,d,hi,hd,hz,hk,hs,hb⟩:=tyOf_spec h
 simp [zeroValue,run_typeInfo' hi,hz]
end
theorem addr_add (b o j:Nat):(⟨b,o,none⟩:Addr).add j=⟨b,o+j,none⟩:=by unfold Addr.add; split <;> simp_all

theorem run_loadVar' {P:Program} {t:TypeId} {ty:Ty} {w:World} {b o:Nat} {x:Value} (h:tyOf P t=some ty)
  (hx:(ty.isAgg=true∧(∃ xs,x=.agg xs)∧x.cells.size=ty.size) ∨ (ty.isAgg=false∧plainV x))
  (hc:∀ j u,x.cells[j]?=some u→w.cell? ⟨b,o+j,none⟩=some u):(loadVar t ⟨b,o,none⟩).run P w=.ok x w:=by
 rcases hx with ⟨ha,⟨xs,rfl⟩,hsz⟩ | ⟨ha,hp⟩
 ·simp only [loadVar,Sem.run_bind,run_isAgg' h,Result.andThen_ok,ha,if_true,run_sizeOf' h]
  have:=run_loadCells_list (P:=P) w ⟨b,o,none⟩ xs.toList (fun j v hv=>by rw [addr_add]; exact hc j v (by simpa [Value.cells] using hv))
  simp only [Value.cells] at hsz
  simp only [Array.length_toList,hsz] at this
  simp [this]
 ·simp only [loadVar,Sem.run_bind,run_isAgg' h,Result.andThen_ok,ha,Bool.false_eq_true,if_false]
  have:w.cell? ⟨b,o,none⟩=some x:=by simpa using hc 0 x (by rw [hp.1]; rfl)
  simp [load,Sem.run,this]

theorem run_part' {P:Program} {t:TypeId} {ty:Ty} {w:World} {cs:Array Value} {off:Nat} {x:Value} (h:tyOf P t=some ty)
  (hx:(ty.isAgg=true∧x=.agg (cs.extract off (off+ty.size))) ∨ (ty.isAgg=false∧cs[off]?=some x)):(part t cs off).run P w=.ok x w:=by
 rcases hx with ⟨ha,rfl⟩ | ⟨ha,hp⟩
 ·simp [part,run_isAgg' h,ha,run_sizeOf' h]
 ·simp [part,run_isAgg' h,ha,hp]

theorem partD_sound {M:Mem} {m:Loc} {ty:Ty} {sub:Nat} {d e:D} {u:Value} (hr:Rep M m d u) (hp:partD ty sub d=some e) :
  ∃ x,Rep M m e x∧((ty.isAgg=true∧x=.agg (u.cells.extract sub (sub+ty.size))∧x.cells.size=ty.size) ∨ (ty.isAgg=false∧u.cells[sub]?=some x∧plainV x)) ∧
   ∀ j y,x.cells[j]?=some y→u.cells[sub+j]?=some y:=by
 rcases d.agg_or with ⟨cs,rfl⟩ | ⟨h1,h2,h3⟩
 ·simp only [Rep] at hr
  obtain ⟨vs,rfl,hL⟩:=hr
  simp only [partD] at hp
  have hlen:=hL.length
  simp only [Array.length_toList] at hlen
  cases ha:ty.isAgg with
  | true =>
   rw [ha] at hp
   simp only [if_true] at hp
   split at hp
   ·rename_i hle
    cases hp
    refine ⟨.agg (vs.extract sub (sub+ty.size)),?_,.inl ⟨rfl,rfl,?_⟩,?_⟩
    ·simp only [Rep]
     refine ⟨_,rfl,?_⟩
     have:=(hL.drop sub).take ty.size
     simpa [Array.toList_extract,List.extract] using this
    ·simp only [Value.cells,Array.size_extract]; omega
    ·intro j y hy
     simp only [Value.cells] at hy ⊢
     rw [Array.getElem?_extract] at hy
     split at hy
     ·exact hy
     ·cases hy
   ·cases hp
  | false =>
   rw [ha] at hp
   simp only [Bool.false_eq_true,if_false] at hp
   split at hp
   ·rename_i c hc
    split at hp
    ·rename_i ho
     cases hp
     obtain ⟨x,hx,hrx⟩:=hL.get hc
     have hpl:=hrx.one ho
     have hx':vs[sub]?=some x:=by simpa using hx
     refine ⟨x,hrx,.inr ⟨rfl,hx',hpl⟩,fun j y hy=>?_⟩
     rw [hpl.1] at hy
     cases j with
     | zero=>simp at hy; subst hy; simpa [Value.cells] using hx'
     | succ j=>simp at hy
    ·cases hp
   ·cases hp
 ·have key:partD ty sub d=if ty.isAgg then none else if sub=0 then (if d.one then some d else none) else none:=by
   cases d <;> first | rfl | exact absurd rfl (h3 _)
  rw [key] at hp
  split at hp
  ·cases hp
  ·rename_i ha
   split at hp
   ·rename_i hs; subst hs
    split at hp
    ·rename_i ho
     cases hp
     have hpl:=hr.one ho
     refine ⟨u,hr,.inr ⟨by simpa using ha,by rw [hpl.1]; rfl,hpl⟩,fun j y hy=>by simpa using hy⟩
    ·cases hp
   ·cases hp

theorem setPart_sound {M:Mem} {m:Loc} {sub:Nat} {d v e:D} {u x:Value} (hd:Rep M m d u) (hv:Rep M m v x) (ho:d.okCells=true) (hov:v.okCells=true)
  (hp:setPart sub d v=some e):∃ y,Rep M m e y∧e.okCells=true∧y.cells.toList=u.cells.toList.take sub++x.cells.toList++u.cells.toList.drop (sub+x.cells.size)∧sub+x.cells.size≤u.cells.size:=by
 have hxs:=hv.cells_size hov
 have hus:=hd.cells_size ho
 obtain ⟨hL,hA,_⟩:=hv.cells hov
 rcases d.agg_or with ⟨cs,rfl⟩ | ⟨h1,h2,h3⟩
 ·obtain ⟨hL',hA',_⟩:=hd.cells ho
  simp only [setPart] at hp
  split at hp
  ·rename_i hle
   cases hp
   simp only [D.cells] at hL' hA' hus
   refine ⟨.agg (u.cells.toList.take sub++x.cells.toList++u.cells.toList.drop (sub+x.cells.size)).toArray,?_,?_,by simp [Value.cells],by omega⟩
   ·simp only [Rep]
    refine ⟨_,rfl,?_⟩
    rw [hxs]
    exact ((hL'.take sub).append hL).append (hL'.drop _)
   ·simp only [D.okCells]
    have aux:∀ (as bs:List D),allOne as=true→allOne bs=true→allOne (as++bs)=true:=by
     intro as bs ha hb
     induction as with
     | nil=>exact hb
     | cons a as ih=>simp only [allOne,List.cons_append,Bool.and_eq_true] at ha ⊢; exact ⟨ha.1,ih ha.2⟩
    have auxT:∀ (as:List D) (n:Nat),allOne as=true→allOne (as.take n)=true:=by
     intro as
     induction as with
     | nil=>intro n _; simp [allOne]
     | cons a as ih=>intro n ha; cases n with
      | zero=>rfl
      | succ n=>simp only [allOne,List.take_succ_cons,Bool.and_eq_true] at ha ⊢; exact ⟨ha.1,ih n ha.2⟩
    have auxD:∀ (as:List D) (n:Nat),allOne as=true→allOne (as.drop n)=true:=by
     intro as
     induction as with
     | nil=>intro n _; simp [allOne]
     | cons a as ih=>intro n ha; cases n with
      | zero=>exact ha
      | succ n=>simp only [allOne,List.drop_succ_cons,Bool.and_eq_true] at ha ⊢; exact ih n ha.2
    exact aux _ _ (aux _ _ (auxT _ _ hA') hA) (auxD _ _ hA')
  ·cases hp
 ·have key:setPart sub d v=if d.one && v.one && sub == 0 then some v else none:=by
   cases d <;> first | rfl | exact absurd rfl (h3 _)
  rw [key] at hp
  split at hp
  ·rename_i hc
   simp only [Bool.and_eq_true,beq_iff_eq] at hc
   cases hp
   have h4:=hd.one hc.1.1
   have h5:=hv.one hc.1.2
   obtain rfl:sub=0:=hc.2
   refine ⟨x,hv,hov,by simp [h4.1,h5.1],by simp [h4.1,h5.1]⟩
  ·cases hp
end Go.VS

namespace Go.VS
open Go Go.RowKit

def updF:List Upd→(Nat→Option Ob)→Nat→Option Ob
 | [],g=>g
 | (k,v)::r,g=>updF r (fun x=>if x=k then v else g x)

theorem get_ins (t:Nat) (d:D) (l:List (Nat × D)) (x:Nat):get (ins t d l) x=if x=t then d else get l x:=by
 simp only [ins,get]
 by_cases h:t=x
 ·subst h; simp [yz.2]
 ·simp [eqb_false.2 h,Ne.symm h]
theorem oget_oins (t:Nat) (d:Ob):∀ (l:List (Nat × Ob)) (x:Nat),zB (oins t d l) x=if x=t then some d else zB l x
 | [],x=>by
  simp only [oins,zB]
  by_cases h:t=x
  ·subst h; simp [yz.2]
  ·simp [eqb_false.2 h,Ne.symm h]
 | (k,e)::r,x=>by
  simp only [oins]
  cases h1:ltb t k with
  | true =>
   simp only [cond_true,zB]
   by_cases h:t=x
   ·subst h; simp [yz.2]
   ·simp [eqb_false.2 h,Ne.symm h]
  | false =>
   simp only [cond_false]
   cases h2:eqb t k with
   | true =>
    have:=yz.1 h2; subst this
    simp only [cond_true,zB]
    by_cases h:t=x
    ·subst h; simp [yz.2]
    ·simp [eqb_false.2 h,Ne.symm h]
   | false =>
    simp only [cond_false,zB,oget_oins t d r x]
    by_cases hk:k=x
    ·subst hk
     have:=eqb_false.1 h2
     simp [yz.2,Ne.symm this]
    ·simp [eqb_false.2 hk]
theorem oget_odel (t:Nat):∀ (l:List (Nat × Ob)) (x:Nat),zB (odel t l) x=if x=t then none else zB l x
 | [],x=>by simp [odel,zB]
 | (k,e)::r,x=>by
  simp only [odel]
  cases h2:eqb k t with
  | true =>
   have:=yz.1 h2; subst this
   simp only [cond_true,zB,oget_odel k r x]
   by_cases h:x=k
   ·simp [h]
   ·simp [h,eqb_false.2 (Ne.symm h)]
  | false =>
   simp only [cond_false,zB,oget_odel t r x]
   by_cases hk:k=x
   ·subst hk
    have:=eqb_false.1 h2
    simp [yz.2,this]
   ·simp [eqb_false.2 hk]
theorem oget_applyUpd:∀ (u:List Upd) (l:List (Nat × Ob)),zB (applyUpd u l)=updF u (zB l)
 | [],l=>rfl
 | (k,some b)::r,l=>by
  simp only [applyUpd,updF,oget_applyUpd r]
  congr 1; funext x; exact oget_oins k b l x
 | (k,none)::r,l=>by
  simp only [applyUpd,updF,oget_applyUpd r]
  congr 1; funext x; exact oget_odel k l x

def MOK (M:Mem) (w:World):Prop:=∀ b o v,M b o=some v→w.cell? ⟨b,o,none⟩=some v
theorem MOK.none {M:Mem} {w:World} (h:MOK M w) {b:Nat} (hb:w.heap.size≤b) (o:Nat):M b o=none:=by
 cases hM:M b o with
 | none=>rfl
 | some v =>
  have:=h b o v hM
  rw [World.cell?,Array.getElem?_eq_none hb] at this
  cases this

def RepR (M:Mem) (m:Loc) (ob:Ob) (c:Array Value):Prop :=
 ob.els.length * ob.sz≤c.size∧∀ i d,ob.els[i]?=some d→∃ u,Rep M m d u∧u.cells.size=ob.sz∧∀ j x,u.cells[j]?=some x→c[i * ob.sz+j]?=some x
theorem RepR.mono {M M':Mem} {m m':Loc} (hM:MLe M M') (hm:mLe m m') {ob:Ob} {c:Array Value} (h:RepR M m ob c):RepR M' m' ob c :=
 ⟨h.1,fun i d hd=>let ⟨u,h1,h2,h3⟩:=h.2 i d hd; ⟨u,h1.mono hM hm,h2,h3⟩⟩

def TabOK (C:Cfg) (w:World):Prop:=∀ g cs,C.tab g=some cs→∃ t fr,w.heap[g]?=some (.cells cs t fr)
structure Env (C:Cfg) where
 Fr:Nat→Prop
 w0:World
 M0:Mem
 old:Nat→Nat→Prop
 sd:∀ g cs,C.tab g=some cs→Fr g∧∃ t fr,w0.heap[g]?=some (.cells cs t fr)

structure RelO {C:Cfg} (E:Env C) (M:Mem) (m:Loc) (w:World) (g:Nat→Option Ob):Prop where
 at_:∀ o ob,g o=some ob→∃ b s c t,m o=some (b,s)∧w.heap[b]?=some (.cells c t (0,0))∧c.size=s∧RepR M m ob c
 excl:∀ o ob,g o=some ob→ob.froz=false→∀ b s,m o=some (b,s)→∀ off,M b off=none
 inj:∀ o o' ob ob' b s s',g o=some ob→g o'=some ob'→ob.froz=false→m o=some (b,s)→m o'=some (b,s')→o=o'
 fr:∀ o ob b s,g o=some ob→m o=some (b,s)→E.Fr b→ob.froz=true∧E.old o b
structure Rel {C:Cfg} (E:Env C) (M:Mem) (m:Loc) (w:World) (g:Nat→Option Ob):Prop where
 os:w.os=E.w0.os∧(C.dr=true→E.w0.drawn≤w.drawn)
 tape:w.tape=E.w0.tape
 output:w.output=E.w0.output
 size:E.w0.heap.size≤w.heap.size
 keep:∀ b,E.Fr b→w.heap[b]?=E.w0.heap[b]?
 frlt:∀ b,E.Fr b→b < E.w0.heap.size
 mfr:∀ b,E.Fr b→(∀ o,¬ E.old o b)→∀ i,M b i=E.M0 b i
 mok:MOK M w
 ro:RelO E M m w g

section
variable {C:Cfg} {E:Env C} {M:Mem} {m:Loc} {w:World} {g:Nat→Option Ob}

theorem Rel.tab (h:Rel E M m w g):TabOK C w:=fun k cs hk=>by
 obtain ⟨h1,t,fr,h2⟩:=E.sd k cs hk
 exact ⟨t,fr,by rw [h.keep k h1]; exact h2⟩
theorem Rel.drew (h:Rel E M m w g):Rel E M m w.drew g :=
 ⟨⟨h.os.1,fun q=>Nat.le_succ_of_le (h.os.2 q)⟩,h.tape,h.output,h.size,h.keep,h.frlt,h.mfr,h.mok,⟨h.ro.at_,h.ro.excl,h.ro.inj,h.ro.fr⟩⟩

def yt (m:Loc) (k b s:Nat):Loc:=fun x=>if x=k then some (b,s) else m x
theorem newLoc_le {m:Loc} {k b s:Nat} (hk:m k=none):mLe m (yt m k b s):=by
 intro o x hx
 have:o ≠ k:=by intro e; subst e; rw [hk] at hx; cases hx
 simp [yt,this,hx]

theorem Rel.new (h:Rel E M m w g) {k:Nat} (hk:m k=none) (ob:Ob) (cs:Array Value) (t:TypeId) (hf:RepR M m ob cs) :
  Rel E M (yt m k w.heap.size cs.size) (w.alloc (.cells cs t)) (fun x=>if x=k then some ob else g x):=by
 have hle:=newLoc_le (b:=w.heap.size) (s:=cs.size) hk
 refine ⟨h.os,h.tape,h.output,by simp; exact Nat.le_succ_of_le h.size,?_,h.frlt,h.mfr,?_,⟨?_,?_,?_,?_⟩⟩
 ·intro b hb
  rw [Below.heap_alloc w _ b (Nat.lt_of_lt_of_le (h.frlt b hb) h.size)]
  exact h.keep b hb
 ·intro b o v hM
  have:=h.mok b o v hM
  rw [World.cell?_alloc_lt w _ _ (World.block_lt_of_cell? w _ this)]
  exact this
 ·intro o ob' ho
  by_cases e:o=k
  ·subst e
   simp only [if_true,Option.some.injEq] at ho
   subst ho
   refine ⟨w.heap.size,cs.size,cs,t,by simp [yt],?_,rfl,hf.mono (MLe.refl _) hle⟩
   show (w.heap.push _)[w.heap.size]?=_
   simp
  ·simp only [e,if_false] at ho
   obtain ⟨b,s,c,t',h1,h3,h4,h5⟩:=h.ro.at_ o ob' ho
   refine ⟨b,s,c,t',by simp [yt,e,h1],?_,h4,h5.mono (MLe.refl _) hle⟩
   rw [Below.heap_alloc w _ b (Array.getElem?_eq_some_iff.1 h3).1]
   exact h3
 ·intro o ob' ho hfz b s hb off
  by_cases e:o=k
  ·subst e
   simp only [yt,if_true,Option.some.injEq,Prod.mk.injEq] at hb
   exact h.mok.none (by omega) off
  ·simp only [yt,e,if_false] at ho hb
   exact h.ro.excl o ob' ho hfz b s hb off
 ·intro o o' ob1 ob2 b s s' h1 h2 hfz hb1 hb2
  by_cases e:o=k
  ·subst e
   by_cases e':o'=o
   ·exact e'.symm
   ·exfalso
    simp only [yt,if_true,Option.some.injEq,Prod.mk.injEq] at hb1
    simp only [yt,e',if_false] at h2 hb2
    obtain ⟨b',s1,c,t',h1',h3,_⟩:=h.ro.at_ o' ob2 h2
    rw [hb2] at h1'; cases h1'
    have:=(Array.getElem?_eq_some_iff.1 h3).1
    omega
  ·by_cases e':o'=k
   ·exfalso
    subst e'
    simp only [yt,if_true,Option.some.injEq,Prod.mk.injEq] at hb2
    simp only [yt,e,if_false] at h1 hb1
    obtain ⟨b',s1,c,t',h1',h3,_⟩:=h.ro.at_ o ob1 h1
    rw [hb1] at h1'; cases h1'
    have:=(Array.getElem?_eq_some_iff.1 h3).1
    omega
   ·simp only [yt,e,e',if_false] at h1 h2 hb1 hb2
    exact h.ro.inj o o' ob1 ob2 b s s' h1 h2 hfz hb1 hb2
 ·intro o ob1 b s ho hb hF
  by_cases e:o=k
  ·subst e
   simp only [yt,if_true,Option.some.injEq,Prod.mk.injEq] at hb
   have:=h.frlt b hF
   have:=h.size
   omega
  ·simp only [yt,e,if_false] at ho hb
   exact h.ro.fr o ob1 b s ho hb hF

theorem Rel.set (h:Rel E M m w g) {o:Nat} {ob ob':Ob} (ho:g o=some ob) (hfz:ob.froz=false) {b s:Nat} (hb:m o=some (b,s))
  {c c':Array Value} {t:TypeId} (hc:w.heap[b]?=some (.cells c t (0,0))) (hs:c'.size=c.size) (hf:RepR M m ob' c') :
  Rel E M m (w.setRow b c') (fun x=>if x=o then some ob' else g x):=by
 obtain ⟨b1,s1,c1,t1,h1,h3,h4,h5⟩:=h.ro.at_ o ob ho
 rw [hb] at h1; cases h1
 rw [hc] at h3; cases h3
 have hM:=h.ro.excl o ob ho hfz b s hb
 have hnF:¬ E.Fr b:=fun hF=>by have:=(h.ro.fr o ob b s ho hb hF).1; rw [hfz] at this; cases this
 refine ⟨h.os,h.tape,h.output,by simpa using h.size,?_,h.frlt,h.mfr,?_,⟨?_,?_,?_,?_⟩⟩
 ·intro x hx
  rw [setRow_other w b x c' (fun e=>hnF (e ▸ hx))]
  exact h.keep x hx
 ·intro b' o' v hv
  have hne:b' ≠ b:=by intro e; subst e; rw [hM o'] at hv; cases hv
  rw [cell_setRow_other w b c' _ hne]
  exact h.mok b' o' v hv
 ·intro x obx hx
  by_cases e:x=o
  ·subst e
   simp only [if_true,Option.some.injEq] at hx
   subst hx
   exact ⟨b,s,c',t,hb,setRow_heap w b c c' t (0,0) hc,by omega,hf⟩
  ·simp only [e,if_false] at hx
   obtain ⟨b',s',cx,tx,q1,q3,q4,q5⟩:=h.ro.at_ x obx hx
   have hne:b' ≠ b:=by
    intro eb; subst eb
    exact e (h.ro.inj o x ob obx b' s s' ho hx hfz hb q1).symm
   exact ⟨b',s',cx,tx,q1,by rw [setRow_other w b b' c' hne]; exact q3,q4,q5⟩
 ·intro x obx hx hfx b' s' hb' off
  by_cases e:x=o
  ·subst e; rw [hb] at hb'; cases hb'; exact hM off
  ·simp only [e,if_false] at hx
   exact h.ro.excl x obx hx hfx b' s' hb' off
 ·intro x y obx oby b' s1' s2' hx hy hfx hbx hby
  by_cases e:x=o
  ·subst e
   by_cases e':y=x
   ·exact e'.symm
   ·simp only [e',if_false] at hy
    exact h.ro.inj x y ob oby b' s1' s2' ho hy hfz hbx hby
  ·by_cases e':y=o
   ·subst e'
    simp only [e,if_false] at hx
    exact h.ro.inj x y obx ob b' s1' s2' hx ho hfx hbx hby
   ·simp only [e,e',if_false] at hx hy
    exact h.ro.inj x y obx oby b' s1' s2' hx hy hfx hbx hby
 ·intro x obx b' s' hx hbx hF
  by_cases e:x=o
  ·subst e; rw [hb] at hbx; cases hbx; exact absurd hF hnF
  ·simp only [e,if_false] at hx
   exact h.ro.fr x obx b' s' hx hbx hF

theorem Rel.rename (h:Rel E M m w g) {o k:Nat} {ob:Ob} (ho:g o=some ob) (hfz:ob.froz=false) {b s:Nat} (hb:m o=some (b,s)) (hk:m k=none) :
  Rel E M (yt m k b s) w (fun x=>if x=k then some ob else if x=o then none else g x):=by
 have hle:=newLoc_le (b:=b) (s:=s) hk
 have hok:o ≠ k:=by intro e; subst e; rw [hk] at hb; cases hb
 have hnF:¬ E.Fr b:=fun hF=>by have:=(h.ro.fr o ob b s ho hb hF).1; rw [hfz] at this; cases this
 refine ⟨h.os,h.tape,h.output,h.size,h.keep,h.frlt,h.mfr,h.mok,⟨?_,?_,?_,?_⟩⟩
 ·intro x obx hx
  by_cases e:x=k
  ·subst e
   simp only [if_true,Option.some.injEq] at hx; subst hx
   obtain ⟨b1,s1,c1,t1,h1,h3,h4,h5⟩:=h.ro.at_ o ob ho
   rw [hb] at h1; cases h1
   exact ⟨b,s,c1,t1,by simp [yt],h3,h4,h5.mono (MLe.refl _) hle⟩
  ·by_cases e':x=o
   ·subst e'; simp [e] at hx
   ·simp only [e,e',if_false] at hx
    obtain ⟨b1,s1,c1,t1,h1,h3,h4,h5⟩:=h.ro.at_ x obx hx
    exact ⟨b1,s1,c1,t1,hle _ _ h1,h3,h4,h5.mono (MLe.refl _) hle⟩
 ·intro x obx hx hf b' s' hb' off
  by_cases e:x=k
  ·subst e
   simp only [if_true,Option.some.injEq,yt,Prod.mk.injEq] at hx hb'
   obtain ⟨rfl,rfl⟩:=hb'
   exact h.ro.excl o ob ho hfz b s hb off
  ·by_cases e':x=o
   ·subst e'; simp [e] at hx
   ·simp only [e,e',if_false,yt] at hx hb'
    exact h.ro.excl x obx hx hf b' s' hb' off
 ·intro x y obx oby b' s1' s2' hx hy hfx hbx hby
  by_cases e:x=k
  ·subst e
   simp only [yt,if_true,Option.some.injEq,Prod.mk.injEq] at hx hbx
   obtain ⟨rfl,rfl⟩:=hbx
   by_cases e':y=x
   ·exact e'.symm
   ·by_cases e'':y=o
    ·subst e''; simp [e'] at hy
    ·simp only [e',e'',if_false,yt] at hy hby
     exact absurd (h.ro.inj o y ob oby b s s2' ho hy hfz hb hby).symm e''
  ·by_cases ex:x=o
   ·subst ex; simp [e] at hx
   ·simp only [e,ex,if_false,yt] at hx hbx
    by_cases e':y=k
    ·subst e'
     simp only [yt,if_true,Option.some.injEq,Prod.mk.injEq] at hby
     obtain ⟨rfl,rfl⟩:=hby
     exact absurd (h.ro.inj o x ob obx b s s1' ho hx hfz hb hbx).symm ex
    ·by_cases e'':y=o
     ·subst e''; simp [e'] at hy
     ·simp only [e',e'',if_false,yt] at hy hby
      exact h.ro.inj x y obx oby b' s1' s2' hx hy hfx hbx hby
 ·intro x obx b' s' hx hbx hF
  by_cases e:x=k
  ·subst e
   simp only [yt,if_true,Option.some.injEq,Prod.mk.injEq] at hbx
   obtain ⟨rfl,rfl⟩:=hbx
   exact absurd hF hnF
  ·by_cases ex:x=o
   ·subst ex; simp [e] at hx
   ·simp only [e,ex,if_false,yt] at hx hbx
    exact h.ro.fr x obx b' s' hx hbx hF

def ObLe (a b:Option Ob):Prop:=∀ x,a=some x→∃ y,b=some y∧x.els=y.els∧x.sz=y.sz∧(x.froz=false→y.froz=false)
theorem ObLe.refl (a:Option Ob):ObLe a a:=fun x h=>⟨x,h,rfl,rfl,id⟩
theorem Rel.less (h:Rel E M m w g) {g':Nat→Option Ob} (hg:∀ o,ObLe (g' o) (g o)):Rel E M m w g':=by
 refine ⟨h.os,h.tape,h.output,h.size,h.keep,h.frlt,h.mfr,h.mok,⟨?_,?_,?_,?_⟩⟩
 ·intro x ob hx
  obtain ⟨y,hy,e1,e2,_⟩:=hg x ob hx
  obtain ⟨b,s,c,t,h1,h3,h4,h5⟩:=h.ro.at_ x y hy
  refine ⟨b,s,c,t,h1,h3,h4,?_⟩
  unfold RepR at h5 ⊢
  rw [e1,e2]; exact h5
 ·intro x ob hx hf
  obtain ⟨y,hy,_,_,e3⟩:=hg x ob hx
  exact h.ro.excl x y hy (e3 hf)
 ·intro x y ob ob' b s s' hx hy hf
  obtain ⟨p,hp,_,_,e3⟩:=hg x ob hx
  obtain ⟨q,hq,_,_,_⟩:=hg y ob' hy
  exact h.ro.inj x y p q b s s' hp hq (e3 hf)
 ·intro x ob b s hx hb hF
  obtain ⟨y,hy,_,_,e3⟩:=hg x ob hx
  obtain ⟨q1,q2⟩:=h.ro.fr x y b s hy hb hF
  refine ⟨?_,q2⟩
  cases hf:ob.froz with
  | true=>rfl
  | false=>rw [e3 hf] at q1; cases q1
end
end Go.VS

namespace Go.VS
open Go Go.RowKit

theorem ofCell_rep (M:Mem) (m:Loc) (v:Value):Rep M m (ofCell v) v:=by
 unfold ofCell
 split <;> simp [Rep]
theorem map_ofCell_rep (M:Mem) (m:Loc):∀ (l:List Value),zU M m (l.map ofCell) l
 | []=>by simp [zU]
 | v::r=>by simp only [List.map_cons,zU]; exact ⟨v,r,rfl,ofCell_rep M m v,map_ofCell_rep M m r⟩
theorem ofV_rep (M:Mem) (m:Loc) (v:Value):Rep M m (ofV v) v:=by
 unfold ofV
 split
 ·rename_i cs; simp only [Rep]; exact ⟨cs,rfl,map_ofCell_rep M m _⟩
 ·exact ofCell_rep M m _

def yx (C:Cfg) (M:Mem):Prop:=∀ g d,C.glob g=some d→∃ u,Rep M noLoc d u∧MemAt M g 0 u.cells
theorem yx.mono {C:Cfg} {M M':Mem} (h:yx C M) (hM:MLe M M'):yx C M' :=
 fun g d hg=>let ⟨u,h1,h2⟩:=h g d hg; ⟨u,h1.mono hM (mLe.refl _),h2.mono hM⟩

section
variable {C:Cfg} {M:Mem} {m:Loc} {gT:Nat→D} {a:Act}
theorem yb (hG:yx C M) (hT:∀ t,Rep M m (gT t) (a.tmps.getD t undef)) (x:Operand):Rep M m (zQ C gT x) (a.eval x):=by
 cases x with
 | tmp t=>exact hT t
 | const v=>exact ofV_rep M m v
 | global g =>
  simp only [zQ]
  split
  ·rename_i d hd
   obtain ⟨u,h1,h2⟩:=hG g d hd
   simp only [Rep,Act.eval]
   exact ⟨g,0,u,rfl,h1,h2⟩
  ·simp [Rep]
 | func f=>simp only [zQ,Rep,Act.eval]; exact ⟨#[],#[],rfl,by simp [zU],by simp [zU]⟩
theorem evArgs_rep (hG:yx C M) (hT:∀ t,Rep M m (gT t) (a.tmps.getD t undef)):∀ l:List Operand,zU M m (l.map (zQ C gT)) (l.map a.eval)
 | []=>by simp [zU]
 | x::r=>by simp only [List.map_cons,zU]; exact ⟨_,_,rfl,yb hG hT x,evArgs_rep hG hT r⟩
end

def OpK {C:Cfg} (E:Env C) (M:Mem) (m:Loc) (g':Nat→Option Ob) (nxt:Nat) (r:Out) (K:Value→World→Prop):Prop :=
 ∀ M' m' w' v,MLe M M'→mLe m m'→(∀ x,(x < nxt ∨ r.nxt≤x)→m' x=m x)→Rep M' m' r.d v→Rel E M' m' w' (updF r.wr g')→K v w'

section
variable {C:Cfg} {E:Env C} {M:Mem} {m:Loc} {w:World} {g':Nat→Option Ob} {a:Act} {o:Oper} {nxt:Nat} {r:Out}
 {next:Act→World→Prop} {Q:Exit→Act→World→Prop}

theorem wp_value {v:Value} {w':World} (h:(execOp a.eval o).run C.P w=.ok (.value v) w') (k:next (a.put o.dst v) w'):o.wp C.P a w next Q:=by
 unfold Oper.wp; rw [h]; exact k
theorem wp_skip' {w':World} (h:(execOp a.eval o).run C.P w=.ok .skip w') (k:next (a.put o.dst undef) w'):o.wp C.P a w next Q:=by
 unfold Oper.wp; rw [h]; exact k
theorem wp_pure (hR:Rel E M m w g') {v:Value} {d:D} {rd:List Nat} (hr:r=⟨d,[],rd,nxt⟩) (h:(execOp a.eval o).run C.P w=.ok (.value v) w) (hv:Rep M m d v)
  (hK:OpK E M m g' nxt r (fun v w'=>next (a.put o.dst v) w')):o.wp C.P a w next Q:=by
 subst hr
 exact wp_value h (hK M m w v (MLe.refl _) (mLe.refl _) (fun _ _=>rfl) hv hR)
theorem just_inv {d:D} (h:just nxt d=some r):r=⟨d,[],[],nxt⟩:=by simpa [just] using h.symm
theorem justO_inv {d:Option D} (h:justO nxt d=some r):∃ e,d=some e∧r=⟨e,[],[],nxt⟩:=by
 cases d with
 | none=>simp [justO] at h
 | some e=>exact ⟨e,rfl,by simpa [justO] using h.symm⟩
end

section
variable {M:Mem} {m:Loc} {P:Program} {w:World}
theorem binInt_sound {op:BinOp} {k k':IntKind} {x y:Int} {d:D} {t:TypeId} (h:binInt op k x k' y=some d) :
    ∃ v,(binOp op t (.int k x) (.int k' y)).run P w=.ok v w∧Rep M m d v:=by
  have hsh:∀ op',(op'=BinOp.shl ∨ op'=BinOp.shr)→shiftOp op' k x y=some d→∃ v,(Op.shift op' k x k' y).run P w=.ok v w∧Rep M m d v:=by
    intro op' ho h
    unfold shiftOp at h
    split at h
    · cases h
    · rename_i hy
      rcases ho with rfl | rfl <;> simp only [Option.some.injEq] at h <;> subst h <;> refine ⟨_,?_,rfl⟩ <;> simp [Op.shift,hy]
  cases op <;> simp only [binInt] at h <;>
    first
    | (simp only [binOp]; first | exact hsh .shl (.inl rfl) h | exact hsh .shr (.inr rfl) h)
    | (split at h
       · rename_i hk; subst hk
         simp only [intOp] at h
         first
         | (cases h; refine ⟨_,?_,rfl⟩; simp [binOp,Op.intArith,Op.intCmp,Op.intBits])
         | (split at h
            · cases h
            · rename_i hb
              cases h; refine ⟨_,?_,rfl⟩; simp [binOp,Op.intDiv,hb])
       · cases h)
theorem strOp_sound {op:BinOp} {x y:ByteArray} {d:D} {t:TypeId} (h:strOp op x y=some d) :
    ∃ v,(binOp op t (.string x) (.string y)).run P w=.ok v w∧Rep M m d v:=by
  cases op <;> simp only [strOp] at h <;>
    first
    | (cases h; done)
    | (cases h; refine ⟨_,?_,rfl⟩; simp [binOp,Op.stringOp,bytesEq])
    | (split at h
       · cases h
       · rename_i hb
         cases h; refine ⟨_,?_,rfl⟩
         simp only [binOp,Op.stringOp]
         rw [if_neg hb]; rfl)
end
end Go.VS

namespace Go.VS
open Go Go.RowKit

def eqArr (d:Nat) (elem:TypeId) (n:Nat) (xs ys:Array Value):Nat→Nat→Sem Bool
 | _,0=>pure true
 | i,k+1=>do
  let a ← part elem xs (i * n)
  let b ← part elem ys (i * n)
  let r ← Op.equalIn d elem a b
  if (!r)=true then pure false else eqArr d elem n xs ys (i+1) k
theorem run_equalIn_array {P:Program} {w:World} {d len:Nat} {t elem:TypeId} {te:Ty} {xs ys:Array Value} (ht:P.underlying t=some (.array len elem)) (he:tyOf P elem=some te) :
  (Op.equalIn (d+1) t (.agg xs) (.agg ys)).run P w=(eqArr d elem te.size xs ys 0 len).run P w:=by
 simp only [Op.equalIn,Sem.run_bind,zw ht,Result.andThen_ok,run_sizeOf' he]
 rw [Std.Legacy.Range.forIn_eq_forIn_range']
 simp only [Std.Legacy.Range.size,Nat.sub_zero,Nat.add_sub_cancel,Nat.div_one]
 generalize 0=i
 clear ht
 induction len generalizing w i with
 | zero=>simp [eqArr]
 | succ k ih =>
  simp only [List.range'_succ,List.forIn_cons,eqArr,Sem.run_bind,Sem.run_ite]
  generalize (part elem xs (i * te.size)).run P w=r1
  cases r1 with
  | ok a w1 =>
   simp only [Result.andThen_ok]
   generalize (part elem ys (i * te.size)).run P w1=r2
   cases r2 with
   | ok b w2 =>
    simp only [Result.andThen_ok]
    generalize (Op.equalIn d elem a b).run P w2=r3
    cases r3 with
    | ok r w3 =>
     cases r
     ·simp only [Result.andThen_ok,Bool.not_false,if_true,Sem.run_pure]
     ·simp only [Result.andThen_ok,Bool.not_true,Bool.false_eq_true,if_false,Sem.run_pure]
      exact ih (i+1)
    | halt x w3=>simp [Result.andThen]
   | halt x w2=>simp [Result.andThen]
  | halt x w1=>simp [Result.andThen]

section
variable {P:Program} {w:World} {d:Nat} {t:TypeId}
theorem eqn_ptr {e:TypeId} (he:P.underlying t=some (.pointer e)) (a:Option Addr) :
  (Op.equalIn (d+1) t (.pointer none) (.pointer a)).run P w=.ok a.isNone w∧(Op.equalIn (d+1) t (.pointer a) (.pointer none)).run P w=.ok a.isNone w:=by
 constructor
 ·simp only [Op.equalIn,Sem.run_bind,zw he,Result.andThen_ok,Sem.run_pure]
 ·cases a <;> simp only [Op.equalIn,Sem.run_bind,zw he,Result.andThen_ok,Sem.run_pure] <;> rfl
theorem eqn_slice {e:TypeId} (he:P.underlying t=some (.slice e)) (a:Option Addr) (n c:Nat) :
  (Op.equalIn (d+1) t (.slice none 0 0) (.slice a n c)).run P w=.ok a.isNone w∧(Op.equalIn (d+1) t (.slice a n c) (.slice none 0 0)).run P w=.ok a.isNone w:=by
 constructor
 ·simp only [Op.equalIn,Sem.run_bind,zw he,Result.andThen_ok,Sem.run_pure]
 ·cases a <;> simp only [Op.equalIn,Sem.run_bind,zw he,Result.andThen_ok,Sem.run_pure] <;> rfl
theorem eqn_iface {ms:Array (String × TypeId)} (he:P.underlying t=some (.interface ms)) :
  (Op.equalIn (d+1) t .nilIface .nilIface).run P w=.ok true w∧(∀ t' u,(Op.equalIn (d+1) t .nilIface (.iface t' u)).run P w=.ok false w)∧(∀ t' u,(Op.equalIn (d+1) t (.iface t' u) .nilIface).run P w=.ok false w):=by
 refine ⟨?_,fun _ _=>?_,fun _ _=>?_⟩ <;> simp only [Op.equalIn,Sem.run_bind,zw he,Result.andThen_ok,Sem.run_pure]
theorem eqn_func {a b:Array TypeId} {c:Bool} (he:P.underlying t=some (.func a b c)) :
  (Op.equalIn (d+1) t .nilFunc .nilFunc).run P w=.ok true w∧(∀ f x y,(Op.equalIn (d+1) t .nilFunc (.func f x y)).run P w=.ok false w)∧(∀ f x y,(Op.equalIn (d+1) t (.func f x y) .nilFunc).run P w=.ok false w):=by
 refine ⟨?_,fun _ _ _=>?_,fun _ _ _=>?_⟩ <;> simp only [Op.equalIn,Sem.run_bind,zw he,Result.andThen_ok,Sem.run_pure]
end
theorem eqD_agg {C:Cfg} {f:Nat} {t:TypeId} {cs:List D} {y:D} {c:Bool} (hc:eqD C (f+1) t (.agg cs) y=some c):C.eqok t=true∧isAggD y=true:=by
 simp only [eqD] at hc
 split at hc
 ·split at hc
  ·simp [onVals] at hc
  ·simp [onVals] at hc
  ·simp [onVals] at hc
  ·split at hc
   ·rename_i h'; simp only [Bool.and_eq_true] at h'; exact ⟨h'.1.1,h'.2⟩
   ·cases hc
  ·split at hc
   ·rename_i h'; simp only [Bool.and_eq_true] at h'; exact ⟨h'.1.1,h'.2⟩
   ·cases hc
  ·cases hc
 ·cases hc
section
variable {C:Cfg} {M:Mem} {m:Loc} {w:World}
theorem onVals_inv {g:Value→Value→Option Bool} {x y:D} {b:Bool} (h:onVals g x y=some b):∃ v u,x=.val v∧y=.val u∧g v u=some b:=by
 unfold onVals at h
 split at h
 ·split at h
  ·exact ⟨_,_,rfl,rfl,h⟩
  ·cases h
 ·cases h
theorem part_run (hC:CfgOK C) {t:TypeId} {ty:Ty} (ht:C.ty t=some ty) {sub:Nat} {d e:D} {u:Value} (hr:Rep M m d u) (hp:partD ty sub d=some e) :
  ∃ x,Rep M m e x∧(part t u.cells sub).run C.P w=.ok x w:=by
 obtain ⟨x,h1,h2,_⟩:=partD_sound hr hp
 refine ⟨x,h1,run_part' (hC.ty t ty ht) ?_⟩
 rcases h2 with ⟨ha,hx,_⟩ | ⟨ha,hx,_⟩
 ·exact .inl ⟨ha,hx⟩
 ·exact .inr ⟨ha,hx⟩
theorem eqD_sound (hC:CfgOK C):∀ (f d:Nat) (t:TypeId) (x y:D) (b:Bool) (v u:Value),f≤d→eqD C f t x y=some b→Rep M m x v→Rep M m y u →
  (Op.equalIn d t v u).run C.P w=.ok b w:=by
 intro f
 induction f with
 | zero=>intro d t x y b v u _ h; simp [eqD] at h
 | succ f ih =>
  intro d t x y b v u hd h hx hy
  obtain ⟨d,rfl⟩:∃ k,d=k+1:=⟨d - 1,by omega⟩
  simp only [eqD] at h
  cases ht:C.ty t with
  | none=>rw [ht] at h; cases h
  | some ty =>
   rw [ht] at h
   simp only [] at h
   obtain ⟨i,ds,hi,hds,hz,hk,hs,hb⟩:=tyOf_spec (hC.ty t ty ht)
   cases hkk:ty.kind with
   | int k =>
    rw [hkk] at h
    obtain ⟨v',u',rfl,rfl,hg⟩:=onVals_inv h
    simp only [Rep] at hx hy; subst hx hy
    rw [hkk] at hk
    cases ds <;> simp [tkOf] at hk
    subst hk
    unfold eqVal at hg
    split at hg
    ·split at hg
     ·split at hg
      ·rename_i hj; subst hj; cases hg
       exact run_equalIn_int w d t _ _ _ _ hds
      ·cases hg
     ·cases hg
    ·cases hg
   | bool =>
    rw [hkk] at h
    obtain ⟨v',u',rfl,rfl,hg⟩:=onVals_inv h
    simp only [Rep] at hx hy; subst hx hy
    rw [hkk] at hk
    cases ds <;> simp [tkOf] at hk
    unfold eqBoolV at hg
    split at hg
    ·split at hg
     ·cases hg
      exact run_equalIn_bool w d t _ _ hds
     ·cases hg
    ·cases hg
   | str =>
    rw [hkk] at h
    obtain ⟨v',u',rfl,rfl,hg⟩:=onVals_inv h
    simp only [Rep] at hx hy; subst hx hy
    rw [hkk] at hk
    cases ds <;> simp [tkOf] at hk
    unfold eqStrV at hg
    split at hg
    ·split at hg
     ·cases hg
      exact run_equalIn_string w d t _ _ hds
     ·cases hg
    ·cases hg
   | struct fs =>
    rw [hkk] at h
    simp only [] at h
    split at h
    ·rename_i hcond
     simp only [Bool.and_eq_true] at hcond
     obtain ⟨⟨hq,hax⟩,hay⟩:=hcond
     obtain ⟨q1,q2,q3⟩:=hC.eqok t hq
     cases x <;> simp [isAggD] at hax
     cases y <;> simp [isAggD] at hay
     rename_i cs cs'
     have hx':=hx; have hy':=hy
     simp only [Rep] at hx hy
     obtain ⟨xs,rfl,_⟩:=hx
     obtain ⟨ys,rfl,_⟩:=hy
     rw [hkk] at hk
     cases ds <;> simp [tkOf] at hk
     rename_i fields
     have hfo:C.P.fieldsOf t=fields:=by simp [Program.fieldsOf,hds]
     rw [run_equalIn_struct w d t xs ys (by rw [hfo]; exact hds) q1,hfo]
     have q4:=q3 fields hds
     subst hk
     clear hds q3 hfo hi hz hs
     generalize fields.toList=l at h q4
     induction l generalizing b with
     | nil=>simp only [List.map_nil,eqParts,Option.some.injEq] at h; subst h; simp [Op.eqFields]
     | cons fd l ihl =>
      simp only [List.map_cons,eqParts] at h
      cases htf:C.ty fd.type with
      | none=>rw [htf] at h; cases h
      | some tf =>
       rw [htf] at h
       simp only [] at h
       cases hp1:partD tf fd.offset (.agg cs) with
       | none=>rw [hp1] at h; simp at h
       | some a1 =>
        cases hp2:partD tf fd.offset (.agg cs') with
        | none=>rw [hp1,hp2] at h; simp at h
        | some b1 =>
         rw [hp1,hp2] at h
         simp only [] at h
         cases he1:eqD C f fd.type a1 b1 with
         | none=>rw [he1] at h; simp at h
         | some p =>
          cases he2:eqParts C (eqD C f) (.agg cs) (.agg cs') (l.map fun f=>(f.type,f.offset)) with
          | none=>rw [he1,he2] at h; simp at h
          | some q =>
           rw [he1,he2] at h
           simp only [Option.some.injEq] at h
           subst h
           obtain ⟨xa,ra,pa⟩:=part_run (w:=w) hC htf hx' hp1
           obtain ⟨xb,rb,pb⟩:=part_run (w:=w) hC htf hy' hp2
           have e1:=ih d fd.type a1 b1 p xa xb (by omega) he1 ra rb
           have e2:=ihl q he2 (fun g hg=>q4 g (by simp [hg]))
           simp only [Value.cells] at pa pb
           simp only [Op.eqFields,if_pos (q4 fd (by simp)),Sem.run_bind,pa,pb,e1,Result.andThen_ok]
           cases p
           ·simp
           ·simpa using e2
    ·cases h
   | arr n e =>
    rw [hkk] at h
    simp only [] at h
    split at h
    ·rename_i hcond
     simp only [Bool.and_eq_true] at hcond
     obtain ⟨⟨hq,hax⟩,hay⟩:=hcond
     cases x <;> simp [isAggD] at hax
     cases y <;> simp [isAggD] at hay
     rename_i cs cs'
     have hx':=hx; have hy':=hy
     simp only [Rep] at hx hy
     obtain ⟨xs,rfl,_⟩:=hx
     obtain ⟨ys,rfl,_⟩:=hy
     rw [hkk] at hk
     cases ds <;> simp [tkOf] at hk
     obtain ⟨rfl,rfl⟩:=hk
     cases hte:C.ty e with
     | none=>rw [hte] at h; cases h
     | some te =>
      rw [hte] at h
      simp only [] at h
      rw [run_equalIn_array hds (hC.ty _ _ hte)]
      clear hds hi hz hs
      revert h
      generalize 0=j
      intro h
      clear hkk
      induction n generalizing b j with
      | zero=>simp only [eqElems,Option.some.injEq] at h; subst h; simp [eqArr]
      | succ k ihl =>
       simp only [eqElems] at h
       cases hp1:partD te (j * te.size) (.agg cs) with
       | none=>rw [hp1] at h; simp at h
       | some a1 =>
        cases hp2:partD te (j * te.size) (.agg cs') with
        | none=>rw [hp1,hp2] at h; simp at h
        | some b1 =>
         rw [hp1,hp2] at h
         simp only [] at h
         cases he1:eqD C f e a1 b1 with
         | none=>rw [he1] at h; simp at h
         | some p =>
          cases he2:eqElems te (eqD C f e) (.agg cs) (.agg cs') (j+1) k with
          | none=>rw [he1,he2] at h; simp at h
          | some q =>
           rw [he1,he2] at h
           simp only [Option.some.injEq] at h
           subst h
           obtain ⟨xa,ra,pa⟩:=part_run (w:=w) hC hte hx' hp1
           obtain ⟨xb,rb,pb⟩:=part_run (w:=w) hC hte hy' hp2
           have e1:=ih d e a1 b1 p xa xb (by omega) he1 ra rb
           have e2:=ihl q (j+1) he2
           simp only [Value.cells] at pa pb
           simp only [eqArr,Sem.run_bind,pa,pb,e1,Result.andThen_ok]
           cases p
           ·simp
           ·simpa using e2
    ·cases h
   | _=>rw [hkk] at h; cases h
theorem nilKind_val {d:D} {v:Value} (h:Rep M m d v) :
  (nilKind d=1→v=.pointer none)∧(nilKind d=11→∃ a,v=.pointer (some a))∧(nilKind d=2→v=.slice none 0 0) ∧
  (nilKind d=12→∃ a n c,v=.slice (some a) n c)∧(nilKind d=3→v=.nilIface)∧(nilKind d=13→∃ t u,v=.iface t u) ∧
  (nilKind d=4→v=.nilFunc)∧(nilKind d=14→∃ f x y,v=.func f x y)∧(nilKind d % 10≤4∧nilKind d≤14):=by
 cases d with
 | val u =>
  simp only [Rep] at h; subst h
  cases v with
  | pointer a=>cases a <;> simp [nilKind]
  | _=>simp [nilKind]
 | sl nl els sz cap =>
  simp only [Rep] at h
  cases nl with
  | true=>simp [nilKind,(h.1 rfl).2]
  | false=>obtain ⟨b,o,sp,c,h1,_⟩:=h.2 rfl; simp [nilKind,h1]
 | ptr d=>simp only [Rep] at h; obtain ⟨b,o,u,h1,_⟩:=h; simp [nilKind,h1]
 | lref o i sz sub=>simp only [Rep] at h; obtain ⟨b,s,_,h1⟩:=h; simp [nilKind,h1]
 | lsl o off len sz cap=>simp only [Rep] at h; obtain ⟨b,s,c,_,h1,_⟩:=h; simp [nilKind,h1]
 | fn f a b=>simp only [Rep] at h; obtain ⟨xs,ys,h1,_⟩:=h; simp [nilKind,h1]
 | iface t d=>simp only [Rep] at h; obtain ⟨u,h1,_⟩:=h; simp [nilKind,h1]
 | _=>simp [nilKind]
theorem kindCode_inv (hC:CfgOK C) {t:TypeId} {k:Nat} (h:kindCode C t=k) :
  (k=1→∃ e,C.P.underlying t=some (.pointer e))∧(k=2→∃ e,C.P.underlying t=some (.slice e))∧(k=3→∃ e,C.P.underlying t=some (.interface e)) ∧
  (k=4→∃ a b c,C.P.underlying t=some (.func a b c))∧(k=5→C.P.underlying t=some .bool):=by
 unfold kindCode at h
 cases ht:C.ty t with
 | none=>rw [ht] at h; simp only [] at h; subst h; simp
 | some ty =>
  rw [ht] at h
  simp only [] at h
  obtain ⟨i,ds,hi,hds,hz,hk,hs,hb⟩:=tyOf_spec (hC.ty t ty ht)
  rw [hds]
  cases ds <;> simp only [hk,tkOf] at h <;> subst h <;> simp
theorem neqOf_inv {op:BinOp} {b:Option Bool} {d:D} (h:neqOf op b=some d):∃ c,b=some c∧((op=.eql∧d=B c) ∨ (op=.neq∧d=B (!c))):=by
 unfold neqOf at h
 split at h
 ·cases h; exact ⟨_,rfl,.inl ⟨rfl,rfl⟩⟩
 ·cases h; exact ⟨_,rfl,.inr ⟨rfl,rfl⟩⟩
 ·cases h
theorem run_eqop {op:BinOp} {t:TypeId} {v u:Value} {c:Bool} {d:D} (h:neqOf op (some c)=some d)
  (hb:∀ op,(op=.eql ∨ op=.neq)→(binOp op t v u:Sem Value)=if op=.eql then (do pure (.bool (← Op.equal t v u))) else (do pure (.bool (!(← Op.equal t v u)))))
  (he:(Op.equalIn 10000 t v u).run C.P w=.ok c w):∃ x,(binOp op t v u).run C.P w=.ok x w∧Rep M m d x:=by
 obtain ⟨c',hc,h'⟩:=neqOf_inv h
 cases hc
 rcases h' with ⟨rfl,rfl⟩ | ⟨rfl,rfl⟩
 ·refine ⟨.bool c,?_,by simp [Rep]⟩
  rw [hb _ (.inl rfl)]
  simp [Op.equal,Op.maxDepth,he]
 ·refine ⟨.bool (!c),?_,by simp [Rep]⟩
  rw [hb _ (.inr rfl)]
  simp [Op.equal,Op.maxDepth,he]
theorem binNil_sound (hC:CfgOK C) {t:TypeId} {cst:Bool} {op:BinOp} {x y d:D} {v u:Value} (h:binNil (kindCode C t) cst op (nilKind x) (nilKind y)=some d)
  (hx:Rep M m x v) (hy:Rep M m y u):(v=.nilIface→u=.nilIface→cst=true)∧(∀ xs,v ≠ .agg xs)∧∃ z,(binOp op t v u).run C.P w=.ok z w∧Rep M m d z:=by
 obtain ⟨k1,k2,k3,k4,k5⟩:=kindCode_inv hC (t:=t) rfl
 obtain ⟨x1,x11,x2,x12,x3,x13,x4,x14,xr⟩:=nilKind_val hx
 obtain ⟨y1,y11,y2,y12,y3,y13,y4,y14,yr⟩:=nilKind_val hy
 unfold binNil at h
 split at h
 ·rename_i hc
  simp only [Bool.and_eq_true,decide_eq_true_eq] at hc
  obtain ⟨⟨⟨c1,c2⟩,c3⟩,c4⟩:=hc
  generalize kindCode C t=kc at *
  generalize nilKind x=nx at *
  generalize nilKind y=ny at *
  have hkc:kc=1 ∨ kc=2 ∨ kc=3 ∨ kc=4:=by omega
  split at h
  ·rename_i hlt
   simp only [Bool.and_eq_true,decide_eq_true_eq] at hlt
   obtain rfl:nx=kc:=by omega
   obtain rfl:ny=nx:=by omega
   rcases hkc with rfl | rfl | rfl | rfl
   ·obtain ⟨e,he⟩:=k1 rfl
    rw [x1 rfl,y1 rfl]
    simp only [show ¬ (1=3) by decide,decide_false,Bool.false_and,Bool.false_eq_true,if_false] at h
    exact ⟨by simp,by simp,run_eqop h (by rintro _ (rfl | rfl) <;> rfl) (eqn_ptr (d:=9999) he none).1⟩
   ·obtain ⟨e,he⟩:=k2 rfl
    rw [x2 rfl,y2 rfl]
    simp only [show ¬ (2=3) by decide,decide_false,Bool.false_and,Bool.false_eq_true,if_false] at h
    exact ⟨by simp,by simp,run_eqop h (by rintro _ (rfl | rfl) <;> rfl) (eqn_slice (d:=9999) he none 0 0).1⟩
   ·obtain ⟨e,he⟩:=k3 rfl
    rw [x3 rfl,y3 rfl]
    cases cst with
    | false=>simp at h
    | true =>
     simp only [Bool.not_true,Bool.and_false,Bool.false_eq_true,if_false] at h
     exact ⟨by simp,by simp,run_eqop h (by rintro _ (rfl | rfl) <;> rfl) (eqn_iface (d:=9999) he).1⟩
   ·obtain ⟨p,q,r,he⟩:=k4 rfl
    rw [x4 rfl,y4 rfl]
    simp only [show ¬ (4=3) by decide,decide_false,Bool.false_and,Bool.false_eq_true,if_false] at h
    exact ⟨by simp,by simp,run_eqop h (by rintro _ (rfl | rfl) <;> rfl) (eqn_func (d:=9999) he).1⟩
  ·rename_i hnlt
   split at h
   ·rename_i hor
    simp only [Bool.and_eq_true,Bool.or_eq_true,decide_eq_true_eq] at hnlt hor
    rcases hkc with rfl | rfl | rfl | rfl
    ·obtain ⟨e,he⟩:=k1 rfl
     have:(nx=1∧ny=11) ∨ (nx=11∧ny=1):=by omega
     rcases this with ⟨rfl,rfl⟩ | ⟨rfl,rfl⟩
     ·obtain ⟨a,rfl⟩:=y11 rfl; rw [x1 rfl]
      exact ⟨by simp,by simp,run_eqop h (by rintro _ (rfl | rfl) <;> rfl) (eqn_ptr (d:=9999) he (some a)).1⟩
     ·obtain ⟨a,rfl⟩:=x11 rfl; rw [y1 rfl]
      exact ⟨by simp,by simp,run_eqop h (by rintro _ (rfl | rfl) <;> rfl) (eqn_ptr (d:=9999) he (some a)).2⟩
    ·obtain ⟨e,he⟩:=k2 rfl
     have:(nx=2∧ny=12) ∨ (nx=12∧ny=2):=by omega
     rcases this with ⟨rfl,rfl⟩ | ⟨rfl,rfl⟩
     ·obtain ⟨a,n,c,rfl⟩:=y12 rfl; rw [x2 rfl]
      exact ⟨by simp,by simp,run_eqop h (by rintro _ (rfl | rfl) <;> rfl) (eqn_slice (d:=9999) he (some a) n c).1⟩
     ·obtain ⟨a,n,c,rfl⟩:=x12 rfl; rw [y2 rfl]
      exact ⟨by simp,by simp,run_eqop h (by rintro _ (rfl | rfl) <;> rfl) (eqn_slice (d:=9999) he (some a) n c).2⟩
    ·obtain ⟨e,he⟩:=k3 rfl
     have:(nx=3∧ny=13) ∨ (nx=13∧ny=3):=by omega
     rcases this with ⟨rfl,rfl⟩ | ⟨rfl,rfl⟩
     ·obtain ⟨a,n,rfl⟩:=y13 rfl; rw [x3 rfl]
      exact ⟨by simp,by simp,run_eqop h (by rintro _ (rfl | rfl) <;> rfl) ((eqn_iface (d:=9999) he).2.1 a n)⟩
     ·obtain ⟨a,n,rfl⟩:=x13 rfl; rw [y3 rfl]
      exact ⟨by simp,by simp,run_eqop h (by rintro _ (rfl | rfl) <;> rfl) ((eqn_iface (d:=9999) he).2.2 a n)⟩
    ·obtain ⟨p,q,r,he⟩:=k4 rfl
     have:(nx=4∧ny=14) ∨ (nx=14∧ny=4):=by omega
     rcases this with ⟨rfl,rfl⟩ | ⟨rfl,rfl⟩
     ·obtain ⟨a,n,c,rfl⟩:=y14 rfl; rw [x4 rfl]
      exact ⟨by simp,by simp,run_eqop h (by rintro _ (rfl | rfl) <;> rfl) ((eqn_func (d:=9999) he).2.1 a n c)⟩
     ·obtain ⟨a,n,c,rfl⟩:=x14 rfl; rw [y4 rfl]
      exact ⟨by simp,by simp,run_eqop h (by rintro _ (rfl | rfl) <;> rfl) ((eqn_func (d:=9999) he).2.2 a n c)⟩
   ·cases h
 ·cases h
theorem nag_run {op:BinOp} {t:TypeId} {ox oy:Operand} {v u:Value} {P:Program} (h1:v=.nilIface→u=.nilIface→(isConstO ox || isConstO oy)=true) (h2:∀ xs,v ≠ .agg xs) :
    (eqGuard op t ox oy v u).run P w=.ok () w:=by
  unfold eqGuard
  cases op <;> first
    | rfl
    | (cases v with
       | agg cs=>exact absurd rfl (h2 _)
       | nilIface =>
         cases u with
         | nilIface =>
           have:=h1 rfl rfl
           clear h1 h2
           cases ox <;> cases oy <;> simp [isConstO] at this ⊢
         | _=>rfl
       | _=>cases u <;> rfl)
theorem binD_sound (hC:CfgOK C) {t:TypeId} {cst:Bool} {op:BinOp} {x y d:D} {v u:Value} (h:binD C t cst op x y=some d) (hx:Rep M m x v) (hy:Rep M m y u)
  {ox oy:Operand} (hcst:cst=(isConstO ox || isConstO oy)):∃ z,(do eqGuard op t ox oy v u; binOp op t v u:Sem Value).run C.P w=.ok z w∧Rep M m d z:=by
 have fin:(v=.nilIface→u=.nilIface→cst=true)∧(∀ xs,v ≠ .agg xs)∧(∃ z,(binOp op t v u).run C.P w=.ok z w∧Rep M m d z) →
   ∃ z,(do eqGuard op t ox oy v u; binOp op t v u:Sem Value).run C.P w=.ok z w∧Rep M m d z:=by
  rintro ⟨h1,h2,z,h3,h4⟩
  exact ⟨z,by simp only [Sem.run_bind,nag_run (fun a b=>hcst ▸ h1 a b) h2,Result.andThen_ok,h3],h4⟩
 unfold binD at h
 split at h
 ·rename_i v'
  have hv:v=v':=by simpa [Rep] using hx
  split at h
  ·rename_i u'
   have hu:u=u':=by simpa [Rep] using hy
   subst hv hu
   unfold binVal at h
   split at h
   ·split at h
    ·obtain ⟨z,h1,h2⟩:=binInt_sound (M:=M) (m:=m) (P:=C.P) (w:=w) (t:=t) h
     exact fin ⟨by simp,by simp,z,h1,h2⟩
    ·cases h
   ·split at h
    ·obtain ⟨z,h1,h2⟩:=strOp_sound (M:=M) (m:=m) (P:=C.P) (w:=w) (t:=t) h
     exact fin ⟨by simp,by simp,z,h1,h2⟩
    ·cases h
   ·split at h
    ·split at h
     ·rename_i hk
      have hub:=(kindCode_inv hC (t:=t) rfl).2.2.2.2 hk
      exact fin ⟨by simp,by simp,run_eqop h (by rintro _ (rfl | rfl) <;> rfl) (run_equalIn_bool w 9999 t _ _ hub)⟩
     ·cases h
    ·cases h
   ·exact fin (binNil_sound hC h hx hy)
  ·exact fin (binNil_sound hC h hx hy)
 ·rename_i cs
  obtain ⟨c,hc,_⟩:=neqOf_inv h
  rw [hc] at h
  have hq:=eqD_agg hc
  obtain ⟨hq1,hq2⟩:=hq
  have hee:=eqD_sound (w:=w) hC 16 10000 t _ _ c v u (by omega) hc hx hy
  cases y <;> simp [isAggD] at hq2
  have hx':=hx; have hy':=hy
  simp only [Rep] at hx hy
  obtain ⟨xs,rfl,_⟩:=hx
  obtain ⟨ys,rfl,_⟩:=hy
  obtain ⟨z,h1,h2⟩:=run_eqop (M:=M) (m:=m) h (by rintro _ (rfl | rfl) <;> rfl) hee
  refine ⟨z,?_,h2⟩
  simp only [Sem.run_bind,run_eqGuard_agg w op t ox oy xs ys (hC.eqok t hq1).2.1,Result.andThen_ok,h1]
 ·exact fin (binNil_sound hC h hx hy)
end
end Go.VS

namespace Go.VS
open Go Go.RowKit

section
variable {C:Cfg} {E:Env C} {M:Mem} {m:Loc} {w:World} {g':Nat→Option Ob} {a:Act} {o:Oper} {nxt:Nat} {r:Out} {gT:Nat→D}
 {next:Act→World→Prop} {Q:Exit→Act→World→Prop}

theorem run_vE {s:Sem Value} {x:Value} {w':World} {P:Program} (h:s.run P w=.ok x w'):(do pure (Next.value (← s)):Sem Next).run P w=.ok (.value x) w':=by
 simp only [Sem.run_bind,h,Result.andThen_ok,Sem.run_pure]
theorem run_uE {s:Sem Unit} {w':World} {P:Program} (h:s.run P w=.ok () w'):(do s; pure Next.skip:Sem Next).run P w=.ok .skip w':=by
 simp only [Sem.run_bind,h,Result.andThen_ok,Sem.run_pure]

theorem wp_new (hR:Rel E M m w g') (hf:∀ k,nxt≤k→k < r.nxt→m k=none) {els:List D} {sz:Nat} {d:D} {rd:List Nat} (hr:r=newOb nxt els sz d rd)
  {cs:Array Value} {t:TypeId} {v:Value} (h:(execOp a.eval o).run C.P w=.ok (.value v) (w.alloc (.cells cs t)))
  (hcs:RepR M m ⟨els,sz,false⟩ cs) (hd:Rep M (yt m nxt w.heap.size cs.size) d v)
  (hK:OpK E M m g' nxt r (fun v w'=>next (a.put o.dst v) w')):o.wp C.P a w next Q:=by
 subst hr
 have hk:m nxt=none:=hf nxt (Nat.le_refl _) (by simp [newOb])
 refine wp_value h (hK M (yt m nxt w.heap.size cs.size) _ v (MLe.refl _) (newLoc_le hk) ?_ hd ?_)
 ·intro x hx
  have:x ≠ nxt:=by simp only [newOb] at hx; omega
  simp [yt,this]
 ·simpa [newOb,updF] using hR.new hk ⟨els,sz,false⟩ cs t hcs

theorem zeroOk_spec {t:Ty} (h:zeroOk t=true):(zeroD t).okCells=true∧(zeroD t).cells.length=t.size:=by
 simpa [zeroOk] using h
theorem zeroD_rep (M:Mem) (m:Loc) (t:Ty):Rep M m (zeroD t) t.zero:=ofV_rep M m t.zero

theorem RepR.one {d:D} {v:Value} (hv:Rep M m d v) {sz:Nat} (hs:v.cells.size=sz):RepR M m ⟨[d],sz,false⟩ v.cells:=by
 refine ⟨by simp [hs],fun i d' hd=>?_⟩
 cases i with
 | zero=>simp at hd; subst hd; exact ⟨v,hv,hs,fun j x hx=>by simpa using hx⟩
 | succ i=>simp at hd

theorem alloc_sound (hC:CfgOK C) {e:TypeId} (ho:o.op=.alloc e) (h:evAlloc C nxt e=some r) (hR:Rel E M m w g') (hf:∀ k,nxt≤k→k < r.nxt→m k=none)
  (hK:OpK E M m g' nxt r (fun v w'=>next (a.put o.dst v) w')):o.wp C.P a w next Q:=by
 unfold evAlloc at h
 split at h
 ·rename_i t ht
  split at h
  ·rename_i hz
   obtain ⟨z1,z2⟩:=zeroOk_spec hz
   have hz':=(zeroD_rep M m t).cells_size z1
   cases h
   refine wp_new (cs:=t.zero.cells) (t:=e) (v:=.pointer (some ⟨w.heap.size,0,none⟩)) hR hf rfl ?_ (RepR.one (zeroD_rep M m t) (by omega)) ?_ hK
   ·unfold execOp
    simp only [ho]
    refine run_vE ?_
    simp only [Instr.alloc,Sem.run_bind,run_zeroValue' (hC.ty e t ht),Result.andThen_ok,newVar,newRow]
    rfl
   ·simp [Rep,yt]
  ·cases h
 ·cases h
theorem box_sound {e:TypeId} {x:Operand} (ho:o.op=.box e x) (h:evBox nxt (zQ C gT x)=some r) (hG:yx C M) (hT:∀ t,Rep M m (gT t) (a.tmps.getD t undef))
  (hR:Rel E M m w g') (hf:∀ k,nxt≤k→k < r.nxt→m k=none)
  (hK:OpK E M m g' nxt r (fun v w'=>next (a.put o.dst v) w')):o.wp C.P a w next Q:=by
 have hx:=yb hG hT x
 unfold evBox at h
 split at h
 ·rename_i hz
  have hz':=hx.cells_size hz
  cases h
  refine wp_new (cs:=(a.eval x).cells) (t:=e) (v:=.pointer (some ⟨w.heap.size,0,none⟩)) hR hf rfl ?_ (RepR.one hx (by omega)) ?_ hK
  ·unfold execOp
   simp only [ho]
   refine run_vE ?_
   simp only [Instr.box,newVar,newRow,Sem.run_bind,run_newObj,Result.andThen_ok,Sem.run_pure]
   rfl
  ·simp [Rep,yt]
 ·cases h
theorem pick_sound {c x y:Operand} (ho:o.op=.pick c x y) (h:evPick nxt (zQ C gT c) (zQ C gT x) (zQ C gT y)=some r) (hG:yx C M)
  (hT:∀ t,Rep M m (gT t) (a.tmps.getD t undef)) (hR:Rel E M m w g')
  (hK:OpK E M m g' nxt r (fun v w'=>next (a.put o.dst v) w')):o.wp C.P a w next Q:=by
 have hc:=yb hG hT c
 unfold evPick at h
 split at h
 ·rename_i v hv
  split at h
  ·rename_i t
   rw [hv] at hc
   simp only [Rep] at hc
   refine wp_pure (v:=if t then a.eval x else a.eval y) hR (just_inv h) ?_ ?_ hK
   ·unfold execOp
    simp only [ho,hc,asBool,Sem.run_bind,Sem.run_pure,Result.andThen_ok]
   ·cases t
    ·exact yb hG hT y
    ·exact yb hG hT x
  ·cases h
 ·cases h
theorem elAt_sound {objs:List (Nat × Ob)} {k i sz:Nat} {e:D} {ob:Ob} (h:elAt objs k i sz=some (e,ob)):zB objs k=some ob∧ob.sz=sz∧ob.els[i]?=some e:=by
 unfold elAt at h
 split at h
 ·rename_i ob' ho
  cases hq:eqb ob'.sz sz with
  | false=>rw [hq] at h; cases h
  | true =>
   rw [hq] at h
   simp only [cond_true] at h
   split at h
   ·rename_i e' he; cases h; exact ⟨ho,yz.1 hq,he⟩
   ·cases h
 ·cases h
theorem load_sound (hC:CfgOK C) {objs:List (Nat × Ob)} {t:TypeId} {x:Operand} (ho:o.op=.load t x) (h:evLoad C objs nxt t (zQ C gT x)=some r) (hG:yx C M)
  (hT:∀ t,Rep M m (gT t) (a.tmps.getD t undef)) (hR:Rel E M m w g') (hag:∀ k∈r.rd,g' k=zB objs k)
  (hK:OpK E M m g' nxt r (fun v w'=>next (a.put o.dst v) w')):o.wp C.P a w next Q:=by
 have hx:=yb hG hT x
 unfold evLoad at h
 split at h
 ·rename_i ty ht
  split at h
  ·rename_i d hd
   rw [hd] at hx
   simp only [Rep] at hx
   obtain ⟨b,off,u,hx1,hx2,hx3⟩:=hx
   obtain ⟨e,he,hr⟩:=justO_inv h
   obtain ⟨v,hv,hsh,hcl⟩:=partD_sound hx2 he
   refine wp_pure (v:=v) hR hr ?_ (hv.mono (MLe.refl _) (by intro k p hp; cases hp)) hK
   unfold execOp
   simp only [ho,hx1]
   refine run_vE ?_
   simp only [Instr.loadAt,Instr.sureAddr,Sem.run_bind,Sem.run_pure,Result.andThen_ok]
   refine run_loadVar' (hC.ty t ty ht) ?_ fun j y hy=>hR.mok _ _ _ (hx3 j y (by simpa using hcl j y hy))
   rcases hsh with ⟨ha,hq,hs⟩ | ⟨ha,_,hp⟩
   ·exact .inl ⟨ha,⟨_,hq⟩,hs⟩
   ·exact .inr ⟨ha,hp⟩
  ·rename_i k i sz sub hd
   rw [hd] at hx
   simp only [Rep] at hx
   obtain ⟨b,s,hm,hx1⟩:=hx
   split at h
   ·rename_i e ob hel
    obtain ⟨e1,e2,e3⟩:=elAt_sound hel
    split at h
    ·rename_i d hpd
     have hr:=(Option.some.inj h).symm
     have hgk:g' k=some ob:=by rw [hag k (by rw [hr]; simp),e1]
     obtain ⟨b',s',c,tc,q1,q3,q4,q5⟩:=hR.ro.at_ k ob hgk
     rw [hm] at q1; cases q1
     obtain ⟨u,u1,u2,u3⟩:=q5.2 i e e3
     obtain ⟨v,hv,hsh,hcl⟩:=partD_sound u1 hpd
     refine wp_pure (v:=v) hR hr ?_ hv hK
     unfold execOp
     simp only [ho,hx1]
     refine run_vE ?_
     simp only [Instr.loadAt,Instr.sureAddr,Sem.run_bind,Sem.run_pure,Result.andThen_ok]
     refine run_loadVar' (hC.ty t ty ht) ?_ fun j y hy=>?_
     ·rcases hsh with ⟨ha,hq,hs⟩ | ⟨ha,_,hp⟩
      ·exact .inl ⟨ha,⟨_,hq⟩,hs⟩
      ·exact .inr ⟨ha,hp⟩
     ·have:=u3 (sub+j) y (hcl j y hy)
      rw [e2] at this
      simp only [World.cell?,q3,Option.isSome_none,Bool.false_eq_true,if_false]
      rw [show i * sz+sub+j=i * sz+(sub+j) by omega]
      exact this
    ·cases h
   ·cases h
  ·cases h
 ·cases h

theorem plainV.oneCell {v:Value} (h:plainV v):v.oneCell'=true:=by
 obtain ⟨_,h1,h2⟩:=h
 cases v <;> first | rfl | exact absurd rfl (h1 _) | exact absurd rfl (h2 _)

theorem seg_get {α:Type} {l news:List α} {p:Nat} (hp:p+news.length≤l.length) (k:Nat) :
  (l.take p++news++l.drop (p+news.length))[k]?=if k < p then l[k]? else if k < p+news.length then news[k - p]? else l[k]?:=by
 simp only [List.getElem?_append,List.length_append,List.length_take,Nat.min_eq_left (show p≤l.length by omega),List.getElem?_take,List.getElem?_drop]
 by_cases h1:k < p
 ·simp [h1,show k < p+news.length by omega]
 ·by_cases h2:k < p+news.length
  ·simp [h1,h2]
  ·simp only [h1,h2,if_false]
   congr 1; omega

theorem store_sound (hC:CfgOK C) {objs:List (Nat × Ob)} {t:TypeId} {x y:Operand} (ho:o.op=.store t x y) (h:evStore C objs nxt t (zQ C gT x) (zQ C gT y)=some r) (hG:yx C M)
  (hT:∀ t,Rep M m (gT t) (a.tmps.getD t undef)) (hR:Rel E M m w g') (hag:∀ k∈r.rd,g' k=zB objs k)
  (hK:OpK E M m g' nxt r (fun v w'=>next (a.put o.dst v) w')):o.wp C.P a w next Q:=by
 have hx:=yb hG hT x
 have hy:=yb hG hT y
 unfold evStore at h
 split at h
 ·rename_i ty ht
  split at h
  ·rename_i k i sz sub hd
   rw [hd] at hx
   simp only [Rep] at hx
   obtain ⟨b,s,hm,hx1⟩:=hx
   split at h
   ·rename_i e ob hel
    obtain ⟨e1,e2,e3⟩:=elAt_sound hel
    split at h
    ·rename_i hcond
     simp only [Bool.and_eq_true,Bool.not_eq_true',decide_eq_true_eq] at hcond
     obtain ⟨⟨⟨hfz,hok⟩,hsz⟩,heok⟩:=hcond
     split at h
     ·rename_i e' hsp
      have hr:=(Option.some.inj h).symm
      have hgk:g' k=some ob:=by rw [hag k (by rw [hr]; simp),e1]
      obtain ⟨b',s',c,tc,q1,q3,q4,q5⟩:=hR.ro.at_ k ob hgk
      rw [hm] at q1; cases q1
      obtain ⟨u,u1,u2,u3⟩:=q5.2 i e e3
      obtain ⟨z,z1,z2,z3,z4⟩:=setPart_sound u1 hy heok hok hsp
      have hys:=hy.cells_size hok
      obtain ⟨_,_,hpl⟩:=hy.cells hok
      have hile:i < ob.els.length:=(List.getElem?_eq_some_iff.1 e3).1
      have hbound:i * sz+sub+(a.eval y).cells.toList.length≤c.size:=by
       have h1:=q5.1
       rw [e2] at h1 u2
       have h2:(i+1) * sz≤ob.els.length * sz:=Nat.mul_le_mul_right _ hile
       rw [Nat.add_mul] at h2
       simp only [Array.length_toList]
       omega
      have hrun:(storeVar t ⟨b,i * sz+sub,none⟩ (a.eval y)).run C.P w=.ok () (w.setRow b (c.toList.take (i * sz+sub)++(a.eval y).cells.toList++c.toList.drop (i * sz+sub+(a.eval y).cells.toList.length)).toArray):=by
       simp only [storeVar,Sem.run_bind,run_sizeOf' (hC.ty t ty ht),Result.andThen_ok]
       rw [if_neg (by omega)]
       have:=run_storeCells_at C.P b (i * sz+sub) tc (a.eval y).cells.toList 0 c w q3 (by simpa using hbound) (fun v hv=>(hpl v hv).oneCell)
       simpa using this
      refine wp_skip' (w':=w.setRow b (c.toList.take (i * sz+sub)++(a.eval y).cells.toList++c.toList.drop (i * sz+sub+(a.eval y).cells.toList.length)).toArray) ?_ ?_
      ·unfold execOp
       simp only [ho,hx1]
       refine run_uE ?_
       simp only [Instr.storeAt,Instr.sureAddr,Sem.run_bind,Sem.run_pure,Result.andThen_ok]
       exact hrun
      ·refine hK M m _ undef (MLe.refl _) (mLe.refl _) (fun _ _=>rfl) ?_ ?_
       ·rw [hr]; simp [Rep,zU,undef]
       ·rw [hr]
        simp only [updF]
        refine hR.set hgk hfz hm q3 ?_ ?_
        ·simp only [Array.length_toList] at hbound
         simp; omega
        ·refine ⟨?_,fun i' d' hd'=>?_⟩
         ·have:=q5.1
          simp only [List.length_set]
          simp only [Array.length_toList] at hbound
          simp; omega
         ·have hseg:=fun kk=>seg_get (l:=c.toList) (news:=(a.eval y).cells.toList) (p:=i * sz+sub) (by simpa using hbound) kk
          simp only at hd'
          rw [List.getElem?_set] at hd'
          by_cases hi:i=i'
          ·subst hi
           simp only [if_true,hile] at hd'
           cases hd'
           have hzs:z.cells.size=ob.sz:=by
            have:=congrArg List.length z3
            simp only [Array.length_toList,List.length_append,List.length_take,List.length_drop] at this
            omega
           refine ⟨z,z1,hzs,fun j q hq=>?_⟩
           have hq':(u.cells.toList.take sub++(a.eval y).cells.toList++u.cells.toList.drop (sub+(a.eval y).cells.toList.length))[j]?=some q:=by
            rw [show (a.eval y).cells.toList.length=(a.eval y).cells.size by simp,← z3]; simpa using hq
           rw [seg_get (by simpa using z4)] at hq'
           simp only [List.getElem?_toArray,hseg]
           rw [e2]
           have hjlt:j < sz:=by
            have:=(Array.getElem?_eq_some_iff.1 hq).1; omega
           by_cases c1:j < sub
           ·rw [if_pos c1] at hq'
            rw [if_pos (by omega)]
            have:=u3 j q (by simpa using hq')
            rw [e2] at this; simpa using this
           ·by_cases c2:j < sub+(a.eval y).cells.toList.length
            ·rw [if_neg c1,if_pos c2] at hq'
             rw [if_neg (by omega),if_pos (by omega)]
             rw [show i * sz+j - (i * sz+sub)=j - sub by omega]; exact hq'
            ·rw [if_neg c1,if_neg c2] at hq'
             rw [if_neg (by omega),if_neg (by omega)]
             have:=u3 j q (by simpa using hq')
             rw [e2] at this; simpa using this
          ·rw [if_neg hi] at hd'
           obtain ⟨u',v1,v2,v3⟩:=q5.2 i' d' hd'
           refine ⟨u',v1,v2,fun j q hq=>?_⟩
           have hold:=v3 j q hq
           have hjlt:j < ob.sz:=by have:=(Array.getElem?_eq_some_iff.1 hq).1; omega
           simp only [List.getElem?_toArray,hseg]
           have hus:sub+(a.eval y).cells.toList.length≤ob.sz:=by simp only [Array.length_toList]; omega
           rcases Nat.lt_or_gt_of_ne hi with hlt | hgt
           ·have:(i+1) * ob.sz≤i' * ob.sz:=Nat.mul_le_mul_right _ hlt
            rw [Nat.add_mul] at this
            rw [← e2,if_neg (by omega),if_neg (by omega)]; simpa using hold
           ·have:(i'+1) * ob.sz≤i * ob.sz:=Nat.mul_le_mul_right _ hgt
            rw [Nat.add_mul] at this
            rw [← e2,if_pos (by omega)]; simpa using hold
     ·cases h
    ·cases h
   ·cases h
  ·cases h
 ·cases h
end
end Go.VS

namespace Go.VS
open Go Go.RowKit

theorem foldSet_get (off:Nat):∀ (v:List Value) (k:Nat) (cells:Array Value) (i:Nat),off+k+v.length≤cells.size →
  ((v.zipIdx k).foldl (fun cs (p:Value × Nat)=>cs.setIfInBounds (off+p.2) p.1) cells)[i]?=if off+k≤i∧i < off+k+v.length then v[i - off - k]? else cells[i]?
 | [],k,cells,i,h=>by simp; omega
 | x::v,k,cells,i,h=>by
  simp only [List.zipIdx_cons,List.foldl_cons]
  rw [foldSet_get off v (k+1) (cells.setIfInBounds (off+k) x) i (by simp at h ⊢; omega)]
  simp only [List.length_cons] at h ⊢
  by_cases h1:off+(k+1)≤i∧i < off+(k+1)+v.length
  ·rw [if_pos h1,if_pos (by omega)]
   obtain ⟨j,hj⟩:∃ j,i - off - k=j+1:=⟨i - off - k - 1,by omega⟩
   rw [hj,List.getElem?_cons_succ]
   congr 1; omega
  ·rw [if_neg h1,Array.getElem?_setIfInBounds]
   by_cases h2:off+k=i
   ·subst h2
    rw [if_pos rfl,if_pos (by omega),if_pos (by omega)]
    simp
   ·rw [if_neg h2,if_neg (by omega)]
theorem foldSet_toList (off:Nat) (v cells:Array Value) (h:off+v.size≤cells.size) :
  (v.zipIdx.foldl (fun cs (p:Value × Nat)=>cs.setIfInBounds (off+p.2) p.1) cells).toList=cells.toList.take off++v.toList++cells.toList.drop (off+v.toList.length):=by
 apply List.ext_getElem?
 intro i
 rw [seg_get (by simpa using h)]
 have h1:=foldSet_get off v.toList 0 cells i (by simpa using h)
 have h2:v.zipIdx.foldl (fun cs (p:Value × Nat)=>cs.setIfInBounds (off+p.2) p.1) cells=(v.toList.zipIdx 0).foldl (fun cs (p:Value × Nat)=>cs.setIfInBounds (off+p.2) p.1) cells:=by
  rw [← Array.foldl_toList,Array.toList_zipIdx]
 rw [h2,Array.getElem?_toList,h1]
 simp only [Nat.add_zero,Nat.sub_zero,Array.length_toList,Array.getElem?_toList]
 by_cases c1:i < off
 ·rw [if_neg (by omega),if_pos c1]
 ·by_cases c2:i < off+v.size
  ·rw [if_pos (by omega),if_neg c1,if_pos c2]
  ·rw [if_neg (by omega),if_neg c1,if_neg c2]

section
variable {C:Cfg} {E:Env C} {M:Mem} {m:Loc} {w:World} {g':Nat→Option Ob} {a:Act} {o:Oper} {nxt:Nat} {r:Out} {gT:Nat→D}
 {next:Act→World→Prop} {Q:Exit→Act→World→Prop}

theorem fill_sound (hG:yx C M) (hT:∀ t,Rep M m (gT t) (a.tmps.getD t undef)) {place:Nat→Option (Nat × Nat)}:∀ (ps:List (Nat × Operand)) (cs cs':List D) (vs:Array Value),
  fillCells place cs (ps.map (argP C gT))=some cs'→zU M m cs vs.toList →
  ∃ vs',Instr.fill place vs (ps.map fun (i,x)=>(i,a.eval x))=some vs'∧zU M m cs' vs'.toList∧vs'.size=vs.size
 | [],cs,cs',vs,h,hr=>by
  simp only [List.map_nil,fillCells,Option.some.injEq] at h; subst h
  exact ⟨vs,rfl,hr,rfl⟩
 | (i,x)::ps,cs,cs',vs,h,hr=>by
  simp only [List.map_cons,argP,fillCells] at h
  cases hp:place i with
  | none=>rw [hp] at h; cases h
  | some q =>
   obtain ⟨off,size⟩:=q
   rw [hp] at h
   simp only [] at h
   split at h
   ·rename_i hc
    simp only [Bool.and_eq_true,decide_eq_true_eq] at hc
    obtain ⟨⟨h1,h2⟩,h3⟩:=hc
    have hx:=yb hG hT x
    have hsz:=hx.cells_size h1
    obtain ⟨hL,_,_⟩:=hx.cells h1
    have hlen:=hr.length
    simp only [Array.length_toList] at hlen
    have hnew:zU M m (cs.take off++(zQ C gT x).cells++cs.drop (off+size)) ((a.eval x).cells.zipIdx.foldl (fun cs (p:Value × Nat)=>cs.setIfInBounds (off+p.2) p.1) vs).toList:=by
     rw [foldSet_toList off _ vs (by omega)]
     have:off+(a.eval x).cells.toList.length=off+size:=by simp only [Array.length_toList]; omega
     rw [this]
     exact ((hr.take off).append hL).append (hr.drop _)
    obtain ⟨vs',f1,f2,f3⟩:=fill_sound hG hT ps _ cs' _ h hnew
    refine ⟨vs',?_,f2,?_⟩
    ·simp only [List.map_cons,Instr.fill,hp]
     rw [if_neg (by simp only [Bool.or_eq_true,decide_eq_true_eq]; omega)]
     exact f1
    ·rw [f3]
     have:=congrArg List.length (foldSet_toList off (a.eval x).cells vs (by omega))
     simp only [Array.length_toList,List.length_append,List.length_take,List.length_drop] at this
     omega
   ·cases h

theorem placesOf_mapM (hC:CfgOK C):∀ (fs:List Field) (pl:List (Nat × Nat)),placesOf C (fs.map fun f=>(f.type,f.offset))=some pl →
  fs.mapM (fun f=>(C.P.info? f.type).map fun i=>(f.offset,i.size))=some pl
 | [],pl,h=>by simp only [List.map_nil,placesOf,Option.some.injEq] at h; subst h; rfl
 | f::fs,pl,h=>by
  simp only [List.map_cons,placesOf] at h
  split at h
  ·rename_i ty l h1 h2
   cases h
   obtain ⟨i,d,hi,_,_,_,hs,_⟩:=tyOf_spec (hC.ty _ _ h1)
   simp [List.mapM_cons,hi,placesOf_mapM hC fs l h2,hs]
  ·cases h

theorem build_sound (hC:CfgOK C) {t:TypeId} {ps:Array (Nat × Operand)} (ho:o.op=.build t ps) (h:justO nxt (buildD C t (ps.toList.map (argP C gT)))=some r) (hG:yx C M)
  (hT:∀ t,Rep M m (gT t) (a.tmps.getD t undef)) (hR:Rel E M m w g')
  (hK:OpK E M m g' nxt r (fun v w'=>next (a.put o.dst v) w')):o.wp C.P a w next Q:=by
 obtain ⟨e,he,hr⟩:=justO_inv h
 unfold buildD at he
 split at he
 ·rename_i ty ht
  obtain ⟨i,d,hi,hd,hz,hk,hs,hb⟩:=tyOf_spec (hC.ty t ty ht)
  split at he
  ·rename_i hzo
   obtain ⟨z1,z2⟩:=zeroOk_spec hzo
   obtain ⟨zL,_,_⟩:=(zeroD_rep M m ty).cells z1
   have fin:∀ place,fillAgg place (zeroD ty).cells (ps.toList.map (argP C gT))=some e→(∀ vs,Instr.fill place ty.zero.cells (ps.toList.map fun (i,x)=>(i,a.eval x))=some vs →
     C.P.built t (ps.toList.map fun (i,x)=>(i,a.eval x))=some vs)→o.wp C.P a w next Q:=by
    intro place hfa hb
    unfold fillAgg at hfa
    split at hfa
    ·rename_i cs' hfc
     cases hfa
     obtain ⟨vs,f1,f2,f3⟩:=fill_sound hG hT ps.toList _ cs' _ hfc zL
     refine wp_pure (v:=.agg vs) hR hr ?_ (by simp only [Rep]; exact ⟨vs,rfl,f2⟩) hK
     unfold execOp
     simp only [ho]
     refine run_vE ?_
     refine run_build w t _ vs ?_
     simpa using hb vs f1
    ·cases hfa
   split at he
   ·rename_i fs hkk
    rw [hkk] at hk
    cases d <;> simp [tkOf] at hk
    rename_i fields
    split at he
    ·rename_i pl hpl
     subst hk
     refine fin _ he (fun vs hv=>?_)
     have hmm:=placesOf_mapM hC fields.toList pl hpl
     unfold Program.built
     simp only [hi,hd,hz,hmm]
     simpa using hv
    ·cases he
   ·rename_i n el hkk
    rw [hkk] at hk
    cases d <;> simp [tkOf] at hk
    obtain ⟨rfl,rfl⟩:=hk
    split at he
    ·rename_i te hte
     obtain ⟨ie,_,hie,_,_,_,hse,_⟩:=tyOf_spec (hC.ty _ te hte)
     refine fin _ he (fun vs hv=>?_)
     unfold Program.built
     simp only [hi,hd,hz,hie]
     rw [← hse]; exact hv
    ·cases he
   ·cases he
  ·cases he
 ·cases he

theorem nilCheck_sound {x:Operand} (ho:o.op=.nilCheck x) (h:evNilCheck nxt (zQ C gT x)=some r) (hG:yx C M)
  (hT:∀ t,Rep M m (gT t) (a.tmps.getD t undef)) (hR:Rel E M m w g')
  (hK:OpK E M m g' nxt r (fun v w'=>next (a.put o.dst v) w')):o.wp C.P a w next Q:=by
 have hx:=yb hG hT x
 unfold evNilCheck at h
 split at h
 ·rename_i d hd
  rw [hd] at hx
  refine wp_pure (v:=a.eval x) hR (just_inv h) ?_ hx hK
  simp only [Rep] at hx
  obtain ⟨b,off,u,hx1,_⟩:=hx
  unfold execOp; simp only [ho,hx1]; rfl
 ·rename_i k i sz sub hd
  rw [hd] at hx
  refine wp_pure (v:=a.eval x) hR (just_inv h) ?_ hx hK
  simp only [Rep] at hx
  obtain ⟨b,s,_,hx1⟩:=hx
  unfold execOp; simp only [ho,hx1]; rfl
 ·rename_i g p q hd
  split at h
  ·rename_i f
   rw [hd] at hx
   refine wp_pure (v:=a.eval x) hR (just_inv h) ?_ hx hK
   simp only [Rep] at hx
   obtain ⟨xs,ys,hx1,_⟩:=hx
   unfold execOp; simp only [ho,hx1]; rfl
  ·cases h
 ·rename_i k hd
  rw [hd] at hx
  refine wp_pure (v:=a.eval x) hR (just_inv h) ?_ hx hK
  simp only [Rep] at hx
  obtain ⟨l,s,_,hx1⟩:=hx
  unfold execOp; simp only [ho,hx1]; rfl
 ·cases h
theorem unOp_sound {op:UnOp} {t:TypeId} {x:Operand} (ho:o.op=.unOp op t x) (h:justO nxt (unD op (zQ C gT x))=some r) (hG:yx C M)
  (hT:∀ t,Rep M m (gT t) (a.tmps.getD t undef)) (hR:Rel E M m w g')
  (hK:OpK E M m g' nxt r (fun v w'=>next (a.put o.dst v) w')):o.wp C.P a w next Q:=by
 have hx:=yb hG hT x
 obtain ⟨e,he,hr⟩:=justO_inv h
 unfold unD at he
 split at he
 ·rename_i k n hd
  rw [hd] at hx; simp only [Rep] at hx
  cases he
  refine wp_pure (v:=.int k (k.wrap (0 - n))) hR hr ?_ (by simp [Rep]) hK
  unfold execOp; simp only [ho,hx]; refine run_vE ?_; simp [Op.unary,Op.intArith]
 ·rename_i b hd
  rw [hd] at hx; simp only [Rep] at hx
  cases he
  refine wp_pure (v:=.bool (!b)) hR hr ?_ (by simp [Rep]) hK
  unfold execOp; simp only [ho,hx]; refine run_vE ?_; simp [Op.unary]
 ·cases he
theorem convert_sound (hC:CfgOK C) {s t:TypeId} {x:Operand} (ho:o.op=.convert s t x) (h:justO nxt (convD C s t (zQ C gT x))=some r) (hG:yx C M)
  (hT:∀ t,Rep M m (gT t) (a.tmps.getD t undef)) (hR:Rel E M m w g')
  (hK:OpK E M m g' nxt r (fun v w'=>next (a.put o.dst v) w')):o.wp C.P a w next Q:=by
 have hx:=yb hG hT x
 obtain ⟨e,he,hr⟩:=justO_inv h
 unfold convD at he
 split at he
 ·rename_i ts tt hs ht
  obtain ⟨_,ds,_,hds,_,hks,_,_⟩:=tyOf_spec (hC.ty _ _ hs)
  obtain ⟨_,dt,_,hdt,_,hkt,_,_⟩:=tyOf_spec (hC.ty _ _ ht)
  split at he
  ·rename_i k1 k2 k3 n q1 q2 hd
   rw [hd] at hx; simp only [Rep] at hx
   cases he
   rw [q1] at hks; rw [q2] at hkt
   cases ds <;> simp [tkOf] at hks
   cases dt <;> simp [tkOf] at hkt
   subst hks hkt
   refine wp_pure (v:=.int k2 (k2.wrap n)) hR hr ?_ (by simp only [Rep]) hK
   unfold execOp; simp only [ho,hx]; refine run_vE ?_
   simp [Go.convert,zw hds,zw hdt,Conv.intToInt]
  ·rename_i b q1 q2 hd
   rw [hd] at hx; simp only [Rep] at hx
   cases he
   rw [q1] at hks; rw [q2] at hkt
   cases ds <;> simp [tkOf] at hks
   cases dt <;> simp [tkOf] at hkt
   refine wp_pure (v:=.string b) hR hr ?_ (by simp only [Rep]) hK
   unfold execOp; simp only [ho,hx]; refine run_vE ?_
   simp [Go.convert,zw hds,zw hdt]
  ·cases he
 ·cases he
theorem makeInterface_sound (hC:CfgOK C) {t:TypeId} {x:Operand} (ho:o.op=.makeInterface t x) (h:evMakeInterface C nxt t (zQ C gT x)=some r) (hG:yx C M)
  (hT:∀ t,Rep M m (gT t) (a.tmps.getD t undef)) (hR:Rel E M m w g')
  (hK:OpK E M m g' nxt r (fun v w'=>next (a.put o.dst v) w')):o.wp C.P a w next Q:=by
 have hx:=yb hG hT x
 unfold evMakeInterface at h
 split at h
 ·rename_i ty ht
  obtain ⟨_,d,_,hd,_,hk,_,_⟩:=tyOf_spec (hC.ty _ _ ht)
  split at h
  ·cases h
  ·rename_i hne
   refine wp_pure (v:=.iface t (a.eval x)) hR (just_inv h) ?_ (by simp only [Rep]; exact ⟨_,rfl,hx⟩) hK
   unfold execOp; simp only [ho]; refine run_vE ?_
   simp only [Instr.makeInterface,Sem.run_bind,zw hd,Result.andThen_ok]
   cases d <;> first | rfl | (simp only [tkOf] at hk; exact absurd hk hne)
 ·cases h
theorem makeFunc_sound {f:Fn} {p q:Array Operand} (ho:o.op=.makeFunc f p q) (h:just nxt (.fn f (p.toList.map (zQ C gT)) (q.toList.map (zQ C gT)))=some r) (hG:yx C M)
  (hT:∀ t,Rep M m (gT t) (a.tmps.getD t undef)) (hR:Rel E M m w g')
  (hK:OpK E M m g' nxt r (fun v w'=>next (a.put o.dst v) w')):o.wp C.P a w next Q:=by
 refine wp_pure (v:=.func f (p.map a.eval) (q.map a.eval)) hR (just_inv h) ?_ ?_ hK
 ·unfold execOp; simp only [ho]; refine run_vE ?_; rfl
 ·simp only [Rep]
  refine ⟨_,_,rfl,?_,?_⟩
  ·simpa using evArgs_rep hG hT p.toList
  ·simpa using evArgs_rep hG hT q.toList
theorem extract_sound {x:Operand} {i:Nat} (ho:o.op=.extract x i) (h:evExtract nxt (zQ C gT x) i=some r) (hG:yx C M)
  (hT:∀ t,Rep M m (gT t) (a.tmps.getD t undef)) (hR:Rel E M m w g')
  (hK:OpK E M m g' nxt r (fun v w'=>next (a.put o.dst v) w')):o.wp C.P a w next Q:=by
 have hx:=yb hG hT x
 unfold evExtract at h
 split at h
 ·rename_i ds hd
  rw [hd] at hx; simp only [Rep] at hx
  obtain ⟨vs,hx1,hx2⟩:=hx
  split at h
  ·rename_i d hdi
   obtain ⟨v,hv,hrv⟩:=hx2.get hdi
   refine wp_pure (v:=v) hR (just_inv h) ?_ hrv hK
   unfold execOp; simp only [ho,hx1]; refine run_vE ?_
   have:vs[i]?=some v:=by simpa using hv
   simp [Instr.extract,this]
  ·cases h
 ·cases h
theorem fieldOf_sound (hC:CfgOK C) {s:TypeId} {f:Nat} {tf:Ty} {off:Nat} (h:fieldOf C s f=some (tf,off)) :
  ∃ fields fd,C.P.underlying s=some (.struct fields)∧fields[f]?=some fd∧tyOf C.P fd.type=some tf∧fd.offset=off:=by
 unfold fieldOf at h
 split at h
 ·rename_i ty ht
  obtain ⟨_,d,_,hd,_,hk,_,_⟩:=tyOf_spec (hC.ty _ _ ht)
  split at h
  ·rename_i fs hkk
   rw [hkk] at hk
   cases d <;> simp [tkOf] at hk
   rename_i fields
   split at h
   ·rename_i t off' hf
    split at h
    ·rename_i tf' htf
     cases h
     subst hk
     rw [List.getElem?_map] at hf
     cases hfd:fields[f]? with
     | none=>simp [hfd] at hf
     | some fd =>
      simp [hfd] at hf
      exact ⟨fields,fd,hd,hfd,by rw [hf.1]; exact hC.ty _ _ htf,hf.2⟩
    ·cases h
   ·cases h
  ·cases h
 ·cases h
theorem fieldAddr_sound (hC:CfgOK C) {s:TypeId} {x:Operand} {f:Nat} (ho:o.op=.fieldAddr s x f) (h:evFieldAddr C nxt s (zQ C gT x) f=some r) (hG:yx C M)
  (hT:∀ t,Rep M m (gT t) (a.tmps.getD t undef)) (hR:Rel E M m w g')
  (hK:OpK E M m g' nxt r (fun v w'=>next (a.put o.dst v) w')):o.wp C.P a w next Q:=by
 have hx:=yb hG hT x
 unfold evFieldAddr at h
 split at h
 ·rename_i tf off hf
  obtain ⟨fields,fd,f1,f2,f3,f4⟩:=fieldOf_sound hC hf
  split at h
  ·cases h
  ·rename_i hne
   have hrun:∀ ad,(fieldPlace ad fd).run C.P w=.ok (ad.add off) w:=by
    intro ad
    simp only [fieldPlace,Sem.run_bind,run_sizeOf' f3,Result.andThen_ok,if_neg hne,f4,Sem.run_pure]
   split at h
   ·rename_i d hd
    rw [hd] at hx; simp only [Rep] at hx
    obtain ⟨b,p,u,hx1,hx2,hx3⟩:=hx
    split at h
    ·rename_i e he
     obtain ⟨v,hv,_,hcl⟩:=partD_sound hx2 he
     refine wp_pure (v:=.pointer (some ⟨b,p+off,none⟩)) hR (just_inv h) ?_ ?_ hK
     ·unfold execOp; simp only [ho,hx1]; refine run_vE ?_
      simp only [Instr.fieldAt,Sem.run_bind,zw f1,Result.andThen_ok,f2,Instr.sureAddr,Sem.run_pure,hrun,addr_add]
     ·simp only [Rep]
      refine ⟨b,p+off,v,rfl,hv,fun j y hy=>?_⟩
      have:=hx3 (off+j) y (hcl j y hy)
      rwa [← Nat.add_assoc] at this
    ·cases h
   ·rename_i k i sz sub hd
    rw [hd] at hx; simp only [Rep] at hx
    obtain ⟨b,s',hm,hx1⟩:=hx
    refine wp_pure (v:=.pointer (some ⟨b,i * sz+sub+off,none⟩)) hR (just_inv h) ?_ ?_ hK
    ·unfold execOp; simp only [ho,hx1]; refine run_vE ?_
     simp only [Instr.fieldAt,Sem.run_bind,zw f1,Result.andThen_ok,f2,Instr.sureAddr,Sem.run_pure,hrun,addr_add]
    ·simp only [Rep]
     exact ⟨b,s',hm,by rw [Nat.add_assoc]⟩
   ·cases h
 ·cases h
theorem field_sound (hC:CfgOK C) {s:TypeId} {x:Operand} {f:Nat} (ho:o.op=.field s x f) (h:evField C nxt s (zQ C gT x) f=some r) (hG:yx C M)
  (hT:∀ t,Rep M m (gT t) (a.tmps.getD t undef)) (hR:Rel E M m w g')
  (hK:OpK E M m g' nxt r (fun v w'=>next (a.put o.dst v) w')):o.wp C.P a w next Q:=by
 have hx:=yb hG hT x
 unfold evField at h
 split at h
 ·rename_i tf off hf
  obtain ⟨fields,fd,f1,f2,f3,f4⟩:=fieldOf_sound hC hf
  split at h
  ·rename_i cs hd
   rw [hd] at hx
   obtain ⟨e,he,hr⟩:=justO_inv h
   obtain ⟨v,hv,hsh,hcl⟩:=partD_sound hx he
   simp only [Rep] at hx
   obtain ⟨vs,hx1,_⟩:=hx
   refine wp_pure (v:=v) hR hr ?_ hv hK
   unfold execOp; simp only [ho,hx1]; refine run_vE ?_
   simp only [Instr.field,Sem.run_bind,zw f1,Result.andThen_ok,f2,asAgg,Sem.run_pure,f4]
   refine run_part' f3 ?_
   rw [hx1] at hsh
   simp only [Value.cells] at hsh
   rcases hsh with ⟨q1,q2,_⟩ | ⟨q1,q2,_⟩
   ·exact .inl ⟨q1,q2⟩
   ·exact .inr ⟨q1,q2⟩
  ·cases h
 ·cases h
end
end Go.VS

namespace Go.VS
open Go Go.RowKit

def RepF (M:Mem) (m:Loc) (xs:List D) (sz:Nat) (news:List Value):Prop :=
 news.length=xs.length * sz∧∀ i d,xs[i]?=some d→∃ u,Rep M m d u∧u.cells.size=sz∧∀ j y,u.cells[j]?=some y→news[i * sz+j]?=some y

section
variable {M M':Mem} {m m':Loc} {xs ys:List D} {sz:Nat} {news olds:List Value}
theorem RepF.mono (hM:MLe M M') (hm:mLe m m') (h:RepF M m xs sz news):RepF M' m' xs sz news :=
 ⟨h.1,fun i d hd=>let ⟨u,h1,h2,h3⟩:=h.2 i d hd; ⟨u,h1.mono hM hm,h2,h3⟩⟩
theorem RepF.append (h:RepF M m xs sz olds) (k:RepF M m ys sz news):RepF M m (xs++ys) sz (olds++news):=by
 refine ⟨by rw [List.length_append,List.length_append,h.1,k.1,Nat.add_mul],fun i d hd=>?_⟩
 rw [List.getElem?_append] at hd
 split at hd
 ·rename_i hi
  obtain ⟨u,h1,h2,h3⟩:=h.2 i d hd
  refine ⟨u,h1,h2,fun j y hy=>?_⟩
  have:=h3 j y hy
  rw [List.getElem?_append_left (List.getElem?_eq_some_iff.1 this).1]; exact this
 ·rename_i hi
  obtain ⟨u,h1,h2,h3⟩:=k.2 (i - xs.length) d hd
  refine ⟨u,h1,h2,fun j y hy=>?_⟩
  have hge:xs.length * sz≤i * sz:=Nat.mul_le_mul_right _ (by omega)
  rw [List.getElem?_append_right (by rw [h.1]; omega),h.1]
  have:=h3 j y hy
  rw [Nat.sub_mul] at this
  rw [show i * sz+j - xs.length * sz=i * sz - xs.length * sz+j by omega]; exact this
theorem RepR.ofF {fz:Bool} {c:Array Value} (h:RepF M m xs sz news) (hc:∀ k,k < news.length→c[k]?=news[k]?) (hs:news.length≤c.size):RepR M m ⟨xs,sz,fz⟩ c:=by
 refine ⟨by simp only; rw [← h.1]; exact hs,fun i d hd=>?_⟩
 obtain ⟨u,h1,h2,h3⟩:=h.2 i d hd
 refine ⟨u,h1,h2,fun j y hy=>?_⟩
 have:=h3 j y hy
 rw [hc _ (List.getElem?_eq_some_iff.1 this).1]; exact this
theorem RepR.toF {ob:Ob} {c:Array Value} (h:RepR M m ob c) (off len:Nat) (hl:off+len≤ob.els.length) :
  RepF M m ((ob.els.drop off).take len) ob.sz ((c.toList.drop (off * ob.sz)).take (len * ob.sz)):=by
 have hlen:((ob.els.drop off).take len).length=len:=by simp; omega
 have hb:(off+len) * ob.sz≤c.size:=Nat.le_trans (Nat.mul_le_mul_right _ hl) h.1
 rw [Nat.add_mul] at hb
 refine ⟨by rw [hlen]; simp; omega,fun i d hd=>?_⟩
 have hi:i < len:=by have:=(List.getElem?_eq_some_iff.1 hd).1; omega
 rw [List.getElem?_take,if_pos hi,List.getElem?_drop] at hd
 obtain ⟨u,h1,h2,h3⟩:=h.2 (off+i) d hd
 refine ⟨u,h1,h2,fun j y hy=>?_⟩
 have:=h3 j y hy
 have hj:j < ob.sz:=by have:=(Array.getElem?_eq_some_iff.1 hy).1; omega
 have h4:(i+1) * ob.sz≤len * ob.sz:=Nat.mul_le_mul_right _ hi
 rw [Nat.add_mul] at h4
 rw [List.getElem?_take,if_pos (by omega),List.getElem?_drop]
 rw [Nat.add_mul] at this
 rw [show off * ob.sz+(i * ob.sz+j)=off * ob.sz+i * ob.sz+j by omega]
 simpa using this
theorem RepE.toF {b o : Nat} (h : RepE M xs sz b o) : RepF M m xs sz ((List.range (xs.length * sz)).map fun k => (M b (o + k)).getD undef) ∧
    ∀ j u, ((List.range (xs.length * sz)).map fun k => (M b (o + k)).getD undef)[j]? = some u → M b (o + j) = some u := by
  have key : ∀ j, j < xs.length * sz → ∃ u, M b (o + j) = some u := by
    intro j hj
    have hsz : 0 < sz := by rcases Nat.eq_zero_or_pos sz with h0 | h0; · subst h0; simp at hj
                            · exact h0
    have hi : j / sz < xs.length := Nat.div_lt_of_lt_mul (by rw [Nat.mul_comm]; exact hj)
    obtain ⟨u, h1, h2, h3⟩ := h.get (List.getElem?_eq_getElem hi)
    have hm := Nat.mod_lt j hsz
    have := h3 (j % sz) (u.cells[j % sz]'(by omega)) (by simp)
    rw [Nat.add_assoc, Nat.mul_comm, Nat.div_add_mod] at this
    exact ⟨_, this⟩
  refine ⟨⟨by simp, fun i d hd => ?_⟩, fun j u hu => ?_⟩
  · obtain ⟨u, h1, h2, h3⟩ := h.get hd
    refine ⟨u, h1.mono (MLe.refl _) (by intro k p hp; cases hp), h2, fun j y hy => ?_⟩
    have hi : i < xs.length := (List.getElem?_eq_some_iff.1 hd).1
    have hj : j < sz := by have := (Array.getElem?_eq_some_iff.1 hy).1; omega
    have h4 : (i + 1) * sz ≤ xs.length * sz := Nat.mul_le_mul_right _ hi
    rw [Nat.add_mul] at h4
    rw [List.getElem?_map, List.getElem?_range (by omega)]
    have := h3 j y hy
    rw [Nat.add_assoc] at this
    simp [this]
  · rw [List.getElem?_map] at hu
    cases hr : (List.range (xs.length * sz))[j]? with
    | none => rw [hr] at hu; simp at hu
    | some k =>
      rw [hr] at hu
      have hj : j < xs.length * sz := by have := (List.getElem?_eq_some_iff.1 hr).1; simpa using this
      rw [List.getElem?_range hj] at hr; cases hr
      simp only [Option.map_some, Option.some.injEq] at hu
      obtain ⟨v, hv⟩ := key j hj
      rw [hv] at hu ⊢; simpa using hu
theorem RepF.plain (h : RepF M m xs sz news) (ha : allOk sz xs = true) : ∀ u ∈ news, u.oneCell' = true := by
  have hk : ∀ (l : List D), allOk sz l = true → ∀ (i : Nat) (d : D), l[i]? = some d → d.okCells = true := by
    intro l
    induction l with
    | nil => intro _ i d hd; simp at hd
    | cons x l ih =>
      intro hl i d hd
      simp only [allOk, Bool.and_eq_true] at hl
      cases i with
      | zero => simp at hd; subst hd; exact hl.1.1
      | succ i => exact ih hl.2 i d (by simpa using hd)
  intro u hu
  obtain ⟨k, hk'⟩ := List.mem_iff_getElem?.1 hu
  have hlt := (List.getElem?_eq_some_iff.1 hk').1
  rw [h.1] at hlt
  have hsz : 0 < sz := by rcases Nat.eq_zero_or_pos sz with h0 | h0; · subst h0; simp at hlt
                          · exact h0
  have hi : k / sz < xs.length := Nat.div_lt_of_lt_mul (by rw [Nat.mul_comm]; exact hlt)
  obtain ⟨v, h1, h2, h3⟩ := h.2 _ _ (List.getElem?_eq_getElem hi)
  have hm := Nat.mod_lt k hsz
  have := h3 (k % sz) (v.cells[k % sz]'(by omega)) (by simp)
  rw [Nat.mul_comm, Nat.div_add_mod, hk'] at this
  cases this
  exact ((h1.cells (hk xs ha _ _ (List.getElem?_eq_getElem hi))).2.2 _ (by simp)).oneCell
end

section
variable {M:Mem} {m:Loc}
def zerosOf (zero:Array Value) (n:Nat):Array Value:=(Array.range n).map fun i=>zero[i % zero.size]!
theorem zeros_RepF {te:Ty} (hz:zeroOk te=true) (n:Nat):RepF M m (List.replicate n (zeroD te)) te.size (zerosOf te.zero.cells (n * te.size)).toList:=by
 obtain ⟨z1,z2⟩:=zeroOk_spec hz
 have hzs:=(zeroD_rep M m te).cells_size z1
 refine ⟨by simp [zerosOf],fun i d hd=>?_⟩
 have hi:i < n:=by have:=(List.getElem?_eq_some_iff.1 hd).1; simpa using this
 rw [List.getElem?_replicate,if_pos hi] at hd; cases hd
 refine ⟨te.zero,zeroD_rep M m te,by omega,fun j y hy=>?_⟩
 have hj:j < te.size:=by have:=(Array.getElem?_eq_some_iff.1 hy).1; omega
 have h4:(i+1) * te.size≤n * te.size:=Nat.mul_le_mul_right _ hi
 rw [Nat.add_mul] at h4
 have hlt:i * te.size+j < n * te.size:=by omega
 rw [Array.getElem?_toList]
 simp only [zerosOf,Array.getElem?_map]
 rw [Array.getElem?_eq_getElem (by simpa using hlt)]
 simp only [Array.getElem_range,Option.map_some]
 have hm:(i * te.size+j) % te.zero.cells.size=j:=by
  rw [hzs,z2,Nat.mul_comm,Nat.mul_add_mod,Nat.mod_eq_of_lt hj]
 rw [hm]
 have hj':=(Array.getElem?_eq_some_iff.1 hy)
 obtain ⟨q1,q2⟩:=hj'
 rw [getElem!_pos te.zero.cells j q1,q2]

theorem zLen_inv {d:D} {i:Int} {v:Value} (h:zLen d=some i) (hv:Rep M m d v):∃ k,v=.int k i:=by
 unfold zLen at h
 split at h
 ·rename_i u
  simp only [Rep] at hv; subst hv
  split at h
  ·rename_i k n; cases h; exact ⟨k,rfl⟩
  ·cases h
 ·cases h
end

section
variable {C:Cfg} {E:Env C} {M:Mem} {m:Loc} {w:World} {g':Nat→Option Ob} {a:Act} {o:Oper} {nxt:Nat} {r:Out} {gT:Nat→D}
 {next:Act→World→Prop} {Q:Exit→Act→World→Prop}

theorem elemsD_sound {objs:List (Nat × Ob)} {x:D} {v:Value} {xs:List D} {szx:Nat} {rx:List Nat} (h:elemsD (zB objs) x=some (xs,szx,rx)) (hx:Rep M m x v)
  (hR:Rel E M m w g') (hag:∀ k∈rx,g' k=zB objs k) :
  (xs=[]∧∃ A c,v=.slice A 0 c) ∨ ∃ b off c news,v=.slice (some ⟨b,off,none⟩) xs.length c∧RepF M m xs szx news∧∀ j u,news[j]?=some u→w.cell? ((⟨b,off,none⟩:Addr).add j)=some u:=by
 unfold elemsD at h
 split at h
 ·cases h
  simp only [Rep] at hx
  left; exact ⟨rfl,none,0,(hx.1 trivial).2⟩
 ·cases h
  simp only [Rep] at hx
  obtain ⟨b,off,sp,c,h1,hs0,h2,h3,h4,h5⟩:=hx.2 trivial
  by_cases he:xs=[]
  ·left
   refine ⟨he,some ⟨b,off,sp⟩,c,?_⟩
   rw [h1,he]; rfl
  obtain rfl:=hs0 he
  right
  obtain ⟨q1,q2⟩:=RepE.toF (m:=m) h5
  exact ⟨b,off,c,_,h1,q1,fun j u hu=>by rw [addr_add]; exact hR.mok _ _ _ (q2 j u hu)⟩
 ·rename_i k off len sz cap
  split at h
  ·rename_i ob ho
   split at h
   ·rename_i hc
    simp only [Bool.and_eq_true,decide_eq_true_eq] at hc
    cases h
    simp only [Rep] at hx
    obtain ⟨b,s,c,hm,hv,_⟩:=hx
    have hgk:g' k=some ob:=by rw [hag k (by simp),ho]
    obtain ⟨b',s',cc,tc,q1,q3,q4,q5⟩:=hR.ro.at_ k ob hgk
    rw [hm] at q1; cases q1
    right
    have hlen:((ob.els.drop off).take len).length=len:=by simp; omega
    obtain ⟨hc1,hc2⟩:=hc
    subst hc1
    refine ⟨b,off * ob.sz,c,_,by rw [hlen]; exact hv,q5.toF off len hc2,fun j u hu=>?_⟩
    rw [addr_add]
    simp only [World.cell?,q3,Option.isSome_none,Bool.false_eq_true,if_false]
    rw [List.getElem?_take] at hu
    split at hu
    ·rw [List.getElem?_drop] at hu; simpa using hu
    ·cases hu
   ·cases h
  ·cases h
 ·cases h
section
variable {P:Program} {t t' e e' ty:TypeId} {i:TypeInfo} {z:Value}
theorem run_app_nothing (ht:P.underlying t=some (.slice e)) (ht':P.underlying t'=some (.slice e')) (hi:P.info? e=some i) (A B:Option Addr) (n c c':Nat) (hn:n≤c) :
  (Builtin.append_ #[t,t'] ty #[.slice A n c,.slice B 0 c']).run P w=.ok (.slice A n c) w:=by
 cases A <;> cases B <;> simp [Builtin.append_,zw ht,zw ht',sizeOf,typeInfo,hi,Builtin.lenOf,Builtin.firstCells,hn,loadCells,loadCellsFrom,storeCells]
theorem run_app_nil (ht:P.underlying t=some (.slice e)) (ht':P.underlying t'=some (.slice e')) (hi:P.info? e=some i) (hz:i.zero=some z)
  (ad:Addr) (n c:Nat) (news:List Value) (hl:news.length=n * i.size) (hnews:∀ j v,news[j]?=some v→w.cell? (ad.add j)=some v)
  (h0:0 < n) (h63:n≤9223372036854775807) (h48:n * i.bytes≤140737488355328) :
  (Builtin.append_ #[t,t'] ty #[.slice none 0 0,.slice (some ad) n c]).run P w =
   .ok (.slice (some ⟨w.heap.size,0,none⟩) n (grownCap w n 0 e)) (w.drew.alloc (.cells (news.toArray++Builtin.zeroCells z.cells (grownCap w n 0 e - n)) e)):=by
 have hn:n ≠ 0:=by omega
 have h63':¬ (9223372036854775807 < (n:Int)):=by omega
 have h48':¬ (281474976710656 < Builtin.nextslicecap n 0 * i.bytes):=by rw [nextslicecap_zero h0]; omega
 have hf:=run_firstCells_some (P:=P) w.drew i.size n ad n c news hl (by simpa using hnews)
 simp [Builtin.append_,zw ht,zw ht',sizeOf,typeInfo,zeroValue,hi,hz,Builtin.lenOf,hn,h63',h48',Question.forced,run_firstCells_none,hf,Go.newRow,grownCap]
theorem run_app_grow (ht:P.underlying t=some (.slice e)) (ht':P.underlying t'=some (.slice e')) (hi:P.info? e=some i) (hz:i.zero=some z)
  (b:Addr) (sLen sCap:Nat) (olds:List Value) (hlo:olds.length=sLen * i.size) (holds:∀ j v,olds[j]?=some v→w.cell? (b.add j)=some v)
  (ad:Addr) (n c:Nat) (news:List Value) (hl:news.length=n * i.size) (hnews:∀ j v,news[j]?=some v→w.cell? (ad.add j)=some v)
  (hg:sCap < sLen+n) (h63:sLen+n≤9223372036854775807) (hfit:(sLen+n) * i.bytes≤140737488355328) :
  (Builtin.append_ #[t,t'] ty #[.slice (some b) sLen sCap,.slice (some ad) n c]).run P w =
   .ok (.slice (some ⟨w.heap.size,0,none⟩) (sLen+n) (grownCap w (sLen+n) sCap e))
    (w.drew.alloc (.cells (olds.toArray++news.toArray++Builtin.zeroCells z.cells (grownCap w (sLen+n) sCap e - (sLen+n))) e)):=by
 have hn:¬ (sLen+n≤sCap):=by omega
 have h63':¬ (9223372036854775807 < ((sLen:Int)+(n:Int))):=by omega
 have h48':¬ (281474976710656 < Builtin.nextslicecap (sLen+n) sCap * i.bytes):=by have:=growslice_fits hg hfit; omega
 have hf:=run_firstCells_some (P:=P) w.drew i.size sLen b sLen sCap olds hlo (by simpa using holds)
 have hf':=run_firstCells_some (P:=P) w.drew i.size n ad n c news hl (by simpa using hnews)
 simp [Builtin.append_,zw ht,zw ht',sizeOf,typeInfo,zeroValue,hi,hz,Builtin.lenOf,hn,h63',h48',Question.forced,hf,hf',Go.newRow,grownCap]
 rw [← Array.append_assoc]; simp
theorem run_app_zeros {k k':IntKind} (ht:P.underlying t=some (.slice e)) (ht':P.underlying t'=some (.int k')) (hi:P.info? e=some i) (hz:i.zero=some z)
  (n:Nat) (hzs:z.cells.size=i.size) (hsz:0 < i.size) (h0:0 < n) (h63:n≤9223372036854775807) (h48:n * i.bytes≤140737488355328) :
  (Builtin.append_ #[t,t'] ty #[.slice none 0 0,.int k (n:Int)]).run P w =
   .ok (.slice (some ⟨w.heap.size,0,none⟩) n (grownCap w n 0 e)) (w.drew.alloc (.cells ((zerosOf z.cells (n * i.size)).toList.toArray++Builtin.zeroCells z.cells (grownCap w n 0 e - n)) e)):=by
 have hn:n ≠ 0:=by omega
 have h63':¬ (9223372036854775807 < (n:Int)):=by omega
 have h48':¬ (281474976710656 < Builtin.nextslicecap n 0 * i.bytes):=by rw [nextslicecap_zero h0]; omega
 have hw:IntKind.i64.wrap (n:Int)=(n:Int):=by rw [IntKind.wrap_i64]; omega
 have hneg:¬ ((n:Int) < 0):=by omega
 have hb:¬ (281474976710656 < (n:Int) * (i.bytes:Int)):=by
  have:((n * i.bytes:Nat):Int)≤140737488355328:=by omega
  rw [Int.natCast_mul] at this; omega
 have hns:¬ (n * i.size=0):=by have:=Nat.mul_pos h0 hsz; omega
 have hns':¬ i.size=0:=by omega
 simp [Builtin.append_,zw ht,zw ht',sizeOf,typeInfo,zeroValue,hi,hz,asInt,asIntOf,hw,hneg,hb,hn,h63',h48',Question.forced,run_firstCells_none,Go.newRow,grownCap,Builtin.zeroCells,zerosOf,hzs]
 rw [if_neg hns]
 have e1:Array.map (fun i_1=>z.cells[i_1 % i.size]!) (Array.range (n * i.size))=(List.map (fun i_1=>z.cells[i_1 % i.size]!) (List.range (n * i.size))).toArray:=by apply Array.toList_inj.1; simp
 rw [e1]
theorem run_app_room (ht:P.underlying t=some (.slice e)) (ht':P.underlying t'=some (.slice e')) (hi:P.info? e=some i)
  (g sLen sCap:Nat) (cur:Array Value) (tc:TypeId) (hg:w.heap[g]?=some (.cells cur tc (0,0)))
  (ad:Addr) (n c:Nat) (news:List Value) (hl:news.length=n * i.size) (hnews:∀ j u,news[j]?=some u→w.cell? (ad.add j)=some u) (h1:∀ u∈news,u.oneCell'=true)
  (hroom:sLen+n≤sCap) (hfit:sLen * i.size+news.length≤cur.size) :
  (Builtin.append_ #[t,t'] ty #[.slice (some ⟨g,0,none⟩) sLen sCap,.slice (some ad) n c]).run P w =
   .ok (.slice (some ⟨g,0,none⟩) (sLen+n) sCap) (w.setRow g (cur.toList.take (sLen * i.size)++news++cur.toList.drop (sLen * i.size+news.length)).toArray):=by
 have hf:=run_firstCells_some (P:=P) w i.size n ad n c news hl hnews
 have hst:=run_storeCells_at P g (sLen * i.size) tc news 0 cur w hg (by simpa using hfit) h1
 simp only [Nat.add_zero] at hst
 simp [Builtin.append_,zw ht,zw ht',sizeOf,typeInfo,hi,Builtin.lenOf,hroom,hf,addr_add,hst]
end
theorem sliceElem_spec (hC:CfgOK C) {t:TypeId} {te:Ty} (h:sliceElem C t=some te):∃ e i,C.P.underlying t=some (.slice e)∧tyOf C.P e=some te∧C.P.info? e=some i∧i.zero=some te.zero∧i.size=te.size∧i.bytes=te.bytes:=by
 unfold sliceElem at h
 split at h
 ·rename_i ty ht
  obtain ⟨_,d,_,hd,_,hk,_,_⟩:=tyOf_spec (hC.ty _ _ ht)
  split at h
  ·rename_i e hkk
   rw [hkk] at hk
   cases d <;> simp [tkOf] at hk
   subst hk
   obtain ⟨i,_,hi,_,hz,_,hs,hb⟩:=tyOf_spec (hC.ty _ _ h)
   exact ⟨_,i,hd,hC.ty _ _ h,hi,hz,hs.symm,hb.symm⟩
  ·cases h
 ·cases h
theorem wp_newRow (hR:Rel E M m w g') (hf:∀ k,nxt≤k→k < r.nxt→m k=none) {te:Ty} {els:List D} {rd:List Nat} (hr:newRow te nxt els rd=some r) (hz:zeroOk te=true)
  {cells:List Value} (hcl:RepF M m els te.size cells) {cap:Nat} {e:TypeId} (hcap:els.length≤cap) (hmax:cap≤maxLen)
  (h:(execOp a.eval o).run C.P w=.ok (.value (.slice (some ⟨w.heap.size,0,none⟩) els.length cap)) (w.drew.alloc (.cells (cells.toArray++Builtin.zeroCells te.zero.cells (cap - els.length)) e)))
  (hK:OpK E M m g' nxt r (fun v w'=>next (a.put o.dst v) w')):o.wp C.P a w next Q:=by
 unfold newRow at hr
 split at hr
 ·cases hr
  obtain ⟨z1,z2⟩:=zeroOk_spec hz
  have hzs:=(zeroD_rep M m te).cells_size z1
  have hsize:(cells.toArray++Builtin.zeroCells te.zero.cells (cap - els.length)).size=cap * te.size:=by
   simp only [Array.size_append,List.size_toArray,size_zeroCells,hcl.1]
   rw [show te.zero.cells.size=te.size by omega,← Nat.add_mul]
   congr 1; omega
  have hk:m nxt=none:=hf nxt (Nat.le_refl _) (by simp [newOb])
  have hrr:RepR M m ⟨els,te.size,false⟩ (cells.toArray++Builtin.zeroCells te.zero.cells (cap - els.length)) :=
   RepR.ofF hcl (fun k hk=>by rw [Array.getElem?_append_left (by simpa using hk)]; simp) (by rw [hsize,hcl.1]; exact Nat.mul_le_mul_right _ hcap)
  refine wp_value h (hK M (yt m nxt w.heap.size (cap * te.size)) _ _ (MLe.refl _) (newLoc_le hk) ?_ ?_ ?_)
  ·intro x hx
   have:x ≠ nxt:=by simp only [newOb] at hx; omega
   simp [yt,this]
  ·simp only [newOb,Rep]
   exact ⟨w.heap.size,cap * te.size,cap,by simp [yt],by simp,hcap,hmax,by simp,by simp,by simp⟩
  ·have:=hR.drew.new hk ⟨els,te.size,false⟩ _ e hrr
   rw [hsize] at this
   simpa [newOb,updF] using this
 ·cases hr
theorem append_sound (hC:CfgOK C) {objs:List (Nat × Ob)} {c:Call} {x y:Operand} (ho:o.op=.call c) (hcl:c.callee=.builtin .append) (hca:c.args=#[x,y])
  (h:appendD C (zB objs) nxt c.argTypes (zQ C gT x) (zQ C gT y)=some r) (hG:yx C M)
  (hT:∀ t,Rep M m (gT t) (a.tmps.getD t undef)) (hR:Rel E M m w g') (hag:∀ k∈r.rd,g' k=zB objs k) (hf:∀ k,nxt≤k→k < r.nxt→m k=none)
  (hty:c.argTypes.size=2)
  (hK:OpK E M m g' nxt r (fun v w'=>next (a.put o.dst v) w')):o.wp C.P a w next Q:=by
 have hx:=yb hG hT x
 have hy:=yb hG hT y
 have hexec:∀ {v:Value} {w':World},(Builtin.append_ c.argTypes o.type #[a.eval x,a.eval y]).run C.P w=.ok v w'→(execOp a.eval o).run C.P w=.ok (.value v) w':=by
  intro v w' hrun
  unfold execOp
  simp only [ho,resolve,hcl,hca,Sem.run_bind,Sem.run_pure,Result.andThen_ok,invoke,Go.builtin]
  have:(#[x,y].map a.eval)=#[a.eval x,a.eval y]:=by simp
  rw [this]
  simp only [hrun,Result.andThen_ok,Sem.run_pure]
 unfold appendD at h
 split at h
 ·rename_i t t' ht ht'
  have hat:c.argTypes=#[t,t']:=by
   apply Array.ext_getElem?
   intro k
   rcases k with _ | _ | k
   ·simpa using ht
   ·simpa using ht'
   ·simp [Array.getElem?_eq_none (show c.argTypes.size≤k+1+1 by omega)]
  rw [hat] at hexec
  split at h
  ·rename_i te te' hse hse'
   obtain ⟨e,i,u1,u2,u3,u4,u5,u6⟩:=sliceElem_spec hC hse
   obtain ⟨e',i',u1',_,u3',_,_,_⟩:=sliceElem_spec hC hse'
   unfold appendE at h
   split at h
   ·rename_i xs szx rx hel
    have hrx:∀ k∈rx,k∈r.rd:=by
     intro k hk
     split at h
     ·split at h
      ·cases h; exact hk
      ·cases h
     ·split at h
      ·split at h
       ·unfold appSl at h
        split at h
        ·unfold newRow at h; split at h
         ·cases h; exact hk
         ·cases h
        ·split at h
         ·split at h
          ·unfold newRow at h; split at h
           ·cases h; exact hk
           ·cases h
          ·cases h
         ·cases h
       ·split at h
        ·split at h
         ·unfold appLsl at h
          split at h
          ·split at h
           ·unfold newRow at h; split at h
            ·cases h; simp [newOb,hk]
            ·cases h
           ·cases h
          ·split at h
           ·split at h
            ·cases h; simp [hk]
            ·split at h
             ·cases h; simp [hk]
             ·cases h
           ·cases h
         ·cases h
        ·cases h
       ·cases h
      ·cases h
    have hes:=elemsD_sound hel hy hR (fun k hk=>hag k (hrx k hk))
    split at h
    ·rename_i hemp
     have hxe:xs=[]:=by simpa using hemp
     subst hxe
     split at h
     ·rename_i hsl
      cases h
      obtain ⟨B,c',hyv⟩:∃ B c',a.eval y=.slice B 0 c':=by
       rcases hes with ⟨_,A,c',hv⟩ | ⟨b,off,c',news,hv,_⟩
       ·exact ⟨A,c',hv⟩
       ·exact ⟨some ⟨b,off,none⟩,c',by simpa using hv⟩
      obtain ⟨A,n,c'',hxv,hle⟩:∃ A n c'',a.eval x=.slice A n c''∧n≤c'':=by
       cases hd:zQ C gT x with
       | sl nl els sz cap =>
        rw [hd] at hx; simp only [Rep] at hx
        cases nl with
        | true=>exact ⟨none,0,0,(hx.1 rfl).2,Nat.le_refl _⟩
        | false=>obtain ⟨b,p,sp,c'',h1,_,h2,_⟩:=hx.2 rfl; exact ⟨_,_,_,h1,h2⟩
       | lsl k off len sz cap =>
        rw [hd] at hx; simp only [Rep] at hx
        obtain ⟨b,s,c'',_,h1,h2,_⟩:=hx
        exact ⟨_,_,_,h1,h2⟩
       | _=>rw [hd] at hsl; simp [isSl] at hsl
      refine wp_pure (v:=a.eval x) hR rfl ?_ hx hK
      refine hexec ?_
      rw [hxv,hyv]
      exact run_app_nothing u1 u1' u3 A B n c'' c' hle
     ·cases h
    ·rename_i hemp
     have hpos:0 < xs.length:=by
      rcases Nat.eq_zero_or_pos xs.length with h0 | h0
      ·exact absurd (by simpa using List.eq_nil_of_length_eq_zero h0) hemp
      ·exact h0
     split at h
     ·rename_i hcond
      simp only [Bool.and_eq_true,decide_eq_true_eq] at hcond
      obtain ⟨⟨⟨hsx,hall⟩,hzo⟩,hsz⟩:=hcond
      obtain ⟨b,off,c',news,hyv,hnf,hnc⟩:∃ b off c' news,a.eval y=.slice (some ⟨b,off,none⟩) xs.length c'∧RepF M m xs te.size news∧∀ j u,news[j]?=some u→w.cell? ((⟨b,off,none⟩:Addr).add j)=some u:=by
       rcases hes with ⟨h0,_⟩ | ⟨b,off,c',news,h1,h2,h3⟩
       ·subst h0; simp at hpos
       ·exact ⟨b,off,c',news,h1,hsx ▸ h2,h3⟩
      have hnl:news.length=xs.length * i.size:=by rw [hnf.1,u5]
      have hbig:∀ n,n * te.bytes≤big→n≤big→n * i.bytes≤140737488355328∧n≤9223372036854775807:=by
       intro n h1 h2; rw [u6]; unfold big at h1 h2; omega
      split at h
      ·rename_i nl els sz cap hdx
       rw [hdx] at hx; simp only [Rep] at hx
       unfold appSl at h
       split at h
       ·-- nil
        have hxv:=(hx.1 rfl).2
        have hbb:xs.length * te.bytes≤big∧xs.length≤big:=by
         unfold newRow at h; split at h
         ·rename_i hc; simpa using hc
         ·cases h
        obtain ⟨g1,g2⟩:=hbig _ hbb.1 hbb.2
        have hge:=grownCap_ge w xs.length 0 e
        refine wp_newRow hR hf h hzo hnf (cap:=grownCap w xs.length 0 e) (e:=e) hge (grownCap_le_maxLen w _ _ _ (by simp only [maxLen]; omega)) ?_ hK
        refine hexec ?_
        rw [hxv,hyv]
        exact run_app_nil u1 u1' u3 u4 ⟨b,off,none⟩ xs.length c' news hnl hnc hpos g2 g1
       ·split at h
        ·rename_i cc
         split at h
         ·rename_i hc2
          simp only [Bool.and_eq_true,decide_eq_true_eq] at hc2
          obtain ⟨⟨k1,k2⟩,k3⟩:=hc2
          subst k1
          obtain ⟨b0,o0,sp0,c0,h1,hs0,h2,h3,h4,h5⟩:=hx.2 rfl
          obtain rfl:=h4 cc rfl
          obtain ⟨q1,q2⟩:=RepE.toF (m:=m) h5
          have hbb:(els++xs).length * te.bytes≤big∧(els++xs).length≤big:=by
           unfold newRow at h; split at h
           ·rename_i hc; simpa using hc
           ·cases h
          obtain ⟨g1,g2⟩:=hbig _ hbb.1 hbb.2
          rw [List.length_append] at g1 g2
          have hge:=grownCap_ge w (els.length+xs.length) c0 e
          refine wp_newRow hR hf h hzo (q1.append hnf) (cap:=grownCap w (els.length+xs.length) c0 e) (e:=e) (by simpa using hge) (grownCap_le_maxLen w _ _ _ (by simp only [maxLen]; omega)) ?_ hK
          refine hexec ?_
          rw [h1,hyv]
          have:=run_app_grow (ty:=o.type) u1 u1' u3 u4 ⟨b0,o0,sp0⟩ els.length c0 _ (by rw [q1.1,u5]) (fun j v hv=>by
           have hne:els ≠ []:=by
            rintro rfl
            simp at hv
           rw [hs0 hne,addr_add]; exact hR.mok _ _ _ (q2 j v hv)) ⟨b,off,none⟩ xs.length c' news hnl hnc k2 g2 g1
          simpa using this
         ·cases h
        ·cases h
      ·rename_i k off' len sz cap hdx
       rw [hdx] at hx; simp only [Rep] at hx
       obtain ⟨b0,s0,c0,hm,hxv,hlc,hcm,hfit,hcap1,hcap2⟩:=hx
       split at h
       ·rename_i ob hob
        split at h
        ·rename_i hc2
         simp only [Bool.and_eq_true,decide_eq_true_eq] at hc2
         obtain ⟨⟨k1,k2⟩,k3⟩:=hc2
         subst k1
         have hgk:k∈r.rd→g' k=some ob:=fun hk=>by rw [hag k hk,hob]
         unfold appLsl at h
         split at h
         ·rename_i cc
          split at h
          ·rename_i hc3
           simp only [Bool.and_eq_true,decide_eq_true_eq] at hc3
           obtain ⟨k4,k5⟩:=hc3
           obtain rfl:=hcap1 cc rfl
           have hkr:k∈r.rd:=by
            unfold newRow at h; split at h
            ·cases h; simp [newOb]
            ·cases h
           obtain ⟨b',s',cur,tc,q1,q3,q4,q5⟩:=hR.ro.at_ k ob (hgk hkr)
           rw [hm] at q1; cases q1
           have hF:=q5.toF off' len k3
           rw [k2] at hF
           have hlen:((ob.els.drop off').take len).length=len:=by simp; omega
           have hbb:((ob.els.drop off').take len++xs).length * te.bytes≤big∧((ob.els.drop off').take len++xs).length≤big:=by
            unfold newRow at h; split at h
            ·rename_i hc; simpa using hc
            ·cases h
           obtain ⟨g1,g2⟩:=hbig _ hbb.1 hbb.2
           rw [List.length_append,hlen] at g1 g2
           have hge:=grownCap_ge w (len+xs.length) c0 e
           refine wp_newRow hR hf h hzo (hF.append hnf) (cap:=grownCap w (len+xs.length) c0 e) (e:=e) (by rw [List.length_append,hlen]; exact hge) (grownCap_le_maxLen w _ _ _ (by simp only [maxLen]; omega)) ?_ hK
           refine hexec ?_
           rw [hxv,hyv]
           have hFl:=hF.1
           rw [hlen] at hFl
           have:=run_app_grow (ty:=o.type) u1 u1' u3 u4 ⟨b0,off' * te.size,none⟩ len c0 _ (by rw [hFl,u5]) (fun j v hv=>by
            rw [addr_add]
            simp only [World.cell?,q3,Option.isSome_none,Bool.false_eq_true,if_false]
            rw [List.getElem?_take] at hv
            split at hv
            ·rw [List.getElem?_drop] at hv; simpa using hv
            ·cases hv) ⟨b,off,none⟩ xs.length c' news hnl hnc k4 g2 g1
           simp only [List.length_append,hlen]
           simpa using this
          ·cases h
         ·split at h
          ·rename_i hc3
           simp only [Bool.and_eq_true,Bool.not_eq_true',decide_eq_true_eq] at hc3
           obtain ⟨⟨⟨k4,k5⟩,k6⟩,k7⟩:=hc3
           subst k4
           obtain ⟨g1,g2⟩:=hbig _ k6 k7
           have hend:=hcap2 rfl
           have hkr:k∈r.rd:=by
            split at h
            ·cases h; simp
            ·split at h
             ·cases h; simp
             ·cases h
           obtain ⟨b',s',cur,tc,q1,q3,q4,q5⟩:=hR.ro.at_ k ob (hgk hkr)
           rw [hm] at q1; cases q1
           have hxv0:a.eval x=.slice (some ⟨b0,0,none⟩) len c0:=by simpa using hxv
           have hend0:c0 * te.size=cur.size:=by rw [q4]; simpa using hend
           have hF:=q5.toF 0 len k3
           have hlen:(ob.els.take len).length=len:=by simp; omega
           rw [k2] at hF
           simp only [Nat.zero_mul,List.drop_zero] at hF
           have room:len+xs.length≤c0→(execOp a.eval o).run C.P w=.ok (.value (.slice (some ⟨b0,0,none⟩) (len+xs.length) c0)) (w.setRow b0 (cur.toList.take (len * te.size)++news++cur.toList.drop (len * te.size+news.length)).toArray) ∧
             (len * te.size+news.length≤cur.size):=by
            intro hroom
            have hfit':len * te.size+news.length≤cur.size:=by
             rw [hnf.1,← Nat.add_mul,← hend0]; exact Nat.mul_le_mul_right _ hroom
            refine ⟨hexec ?_,hfit'⟩
            rw [hxv0,hyv]
            have:=run_app_room (ty:=o.type) u1 u1' u3 b0 len c0 cur tc q3 ⟨b,off,none⟩ xs.length c' news hnl hnc (hnf.plain hall) hroom (by rw [u5]; exact hfit')
            rw [u5] at this; exact this
           have hsegp:∀ (hf':len * te.size+news.length≤cur.size) kk,(cur.toList.take (len * te.size)++news++cur.toList.drop (len * te.size+news.length))[kk]?=if kk < len * te.size then cur.toList[kk]? else if kk < len * te.size+news.length then news[kk - len * te.size]? else cur.toList[kk]? :=
            fun hf' kk=>seg_get (by simpa using hf') kk
           have hnew:∀ (hf':len * te.size+news.length≤cur.size),RepR M m ⟨ob.els.take len++xs,te.size,false⟩ (cur.toList.take (len * te.size)++news++cur.toList.drop (len * te.size+news.length)).toArray:=by
            intro hf'
            refine RepR.ofF (hF.append hnf) (fun kk hk=>?_) (by simp)
            rw [List.getElem?_toArray,List.getElem?_append_left (by simpa using hk)]
           split at h
           ·rename_i hin
            have hroom:len+xs.length≤c0:=by
             have h1:=q5.1
             rw [k2,← hend0] at h1
             have h2:=Nat.le_of_mul_le_mul_right h1 hsz
             omega
            obtain ⟨hrun,hf'⟩:=room hroom
            cases h
            refine wp_value hrun (hK M m _ _ (MLe.refl _) (mLe.refl _) (fun _ _=>rfl) ?_ ?_)
            ·simp only [Rep]
             exact ⟨b0,s0,c0,hm,by simp,hroom,hcm,by simpa using hfit,by simp,fun _=>by simpa using hend⟩
            ·simp only [updF]
             refine hR.set (hgk (by simp)) k5 hm q3 (by simp; omega) ?_
             have hA:=hnew hf'
             have hB:=q5.toF (len+xs.length) (ob.els.length - (len+xs.length)) (by omega)
             rw [k2] at hB
             have htk:(ob.els.drop (len+xs.length)).take (ob.els.length - (len+xs.length))=ob.els.drop (len+xs.length):=by
              rw [List.take_of_length_le]; simp
             rw [htk] at hB
             have hAB:=(hF.append hnf).append hB
             refine RepR.ofF hAB (fun kk hk=>?_) ?_
             ·have hl0:(cur.toList.take (len * te.size)).length=len * te.size:=by simp; omega
              have hl1:(cur.toList.take (len * te.size)++news).length=len * te.size+news.length:=by simp; omega
              have hnn:len * te.size+news.length=(len+xs.length) * te.size:=by rw [hnf.1,Nat.add_mul]
              rw [List.getElem?_toArray,List.getElem?_append,List.getElem?_append (l₁:=cur.toList.take (len * te.size)++news)]
              split
              ·rfl
              ·rename_i hge
               rw [hl1] at hge ⊢
               rw [List.getElem?_take,← hnn]
               have hB1:=hB.1
               have hBl:((cur.toList.drop ((len+xs.length) * te.size)).take ((ob.els.length - (len+xs.length)) * te.size)).length=(ob.els.length - (len+xs.length)) * te.size:=by
                rw [hB1]; simp
               rw [List.length_append,hl1,hBl] at hk
               rw [if_pos (by omega)]
             ·have h1:=q5.1
              have hnn:len * te.size+news.length=(len+xs.length) * te.size:=by rw [hnf.1,Nat.add_mul]
              have hll:(ob.els.take len++xs++ob.els.drop (len+xs.length)).length=ob.els.length:=by simp; omega
              rw [k2] at h1
              have hsz1:(cur.toList.take (len * te.size)++news++cur.toList.drop (len * te.size+news.length)).toArray.size=cur.size:=by simp; omega
              have hsz2:=hAB.1
              rw [hll] at hsz2
              rw [hsz1,hsz2]; exact h1
           ·rename_i hout
            split at h
            ·rename_i hallo
             cases h
             have hk:m nxt=none:=hf nxt (Nat.le_refl _) (by simp)
             have hkne:k ≠ nxt:=by intro e1; subst e1; rw [hk] at hm; cases hm
             by_cases hroom:len+xs.length≤c0
             ·obtain ⟨hrun,hf'⟩:=room hroom
              refine wp_value hrun (hK M (yt m nxt b0 s0) _ _ (MLe.refl _) (newLoc_le hk) ?_ ?_ ?_)
              ·intro z hz
               have:z ≠ nxt:=by simp only at hz; omega
               simp [yt,this]
              ·simp only [Rep]
               exact ⟨b0,s0,c0,by simp [yt],by simp,hroom,hcm,by simpa using hfit,by simp,fun _=>by simpa using hend⟩
              ·have h1:=(hR.set (hgk (by simp)) k5 hm q3 (by simp; omega) (hnew hf')).rename (o:=k) (k:=nxt) (ob:=⟨ob.els.take len++xs,te.size,false⟩) (by simp) rfl hm hk
               refine h1.less fun z=>?_
               simp only [updF]
               by_cases e1:z=nxt
               ·simp [e1]; exact ObLe.refl _
               ·by_cases e2:z=k
                ·subst e2; simp [e1]; exact ObLe.refl _
                ·simp [e1,e2]; exact ObLe.refl _
             ·have hge:=grownCap_ge w (len+xs.length) c0 e
              have hFl:=hF.1
              rw [hlen] at hFl
              have hrun:(execOp a.eval o).run C.P w=.ok (.value (.slice (some ⟨w.heap.size,0,none⟩) (len+xs.length) (grownCap w (len+xs.length) c0 e))) (w.drew.alloc (.cells ((cur.toList.take (len * te.size)).toArray++news.toArray++Builtin.zeroCells te.zero.cells (grownCap w (len+xs.length) c0 e - (len+xs.length))) e)):=by
               refine hexec ?_
               rw [hxv0,hyv]
               exact run_app_grow (ty:=o.type) u1 u1' u3 u4 ⟨b0,0,none⟩ len c0 _ (by rw [hFl,u5]) (fun j v hv=>by
                rw [addr_add]
                simp only [World.cell?,q3,Option.isSome_none,Bool.false_eq_true,if_false]
                rw [List.getElem?_take] at hv
                split at hv
                ·simpa using hv
                ·cases hv) ⟨b,off,none⟩ xs.length c' news hnl hnc (by omega) g2 g1
              obtain ⟨z1,z2⟩:=zeroOk_spec hzo
              have hzs:=(zeroD_rep M m te).cells_size z1
              have hsize:((cur.toList.take (len * te.size)).toArray++news.toArray++Builtin.zeroCells te.zero.cells (grownCap w (len+xs.length) c0 e - (len+xs.length))).size=grownCap w (len+xs.length) c0 e * te.size:=by
               simp only [Array.size_append,List.size_toArray,size_zeroCells,hFl,hnf.1]
               rw [show te.zero.cells.size=te.size by omega,← Nat.add_mul,← Nat.add_mul]
               congr 1; omega
              have hrr:RepR M m ⟨ob.els.take len++xs,te.size,false⟩ ((cur.toList.take (len * te.size)).toArray++news.toArray++Builtin.zeroCells te.zero.cells (grownCap w (len+xs.length) c0 e - (len+xs.length))) :=
               RepR.ofF (hF.append hnf) (fun kk hk=>by rw [Array.getElem?_append_left (by simpa using hk)]; simp) (by
                rw [hsize,(hF.append hnf).1,List.length_append,hlen]; exact Nat.mul_le_mul_right _ hge)
              refine wp_value hrun (hK M (yt m nxt w.heap.size (grownCap w (len+xs.length) c0 e * te.size)) _ _ (MLe.refl _) (newLoc_le hk) ?_ ?_ ?_)
              ·intro z hz
               have:z ≠ nxt:=by simp only at hz; omega
               simp [yt,this]
              ·simp only [Rep]
               exact ⟨w.heap.size,grownCap w (len+xs.length) c0 e * te.size,grownCap w (len+xs.length) c0 e,by simp [yt],by simp,hge,grownCap_le_maxLen w _ _ _ (by simp only [maxLen]; omega),by simp,by simp,fun _=>by simp⟩
              ·have h1:=(hR.drew.new hk ⟨ob.els.take len++xs,te.size,false⟩ _ e hrr)
               rw [hsize] at h1
               refine h1.less fun z=>?_
               simp only [updF]
               by_cases e1:z=nxt
               ·simp [e1]; exact ObLe.refl _
               ·by_cases e2:z=k
                ·subst e2; simp only [e1,if_false,if_true]; intro p hp; cases hp
                ·simp [e1,e2]; exact ObLe.refl _
            ·cases h
          ·cases h
        ·cases h
       ·cases h
      ·cases h
     ·cases h
   ·cases h
  ·rename_i te hse _
   obtain ⟨e,i,u1,u2,u3,u4,u5,u6⟩:=sliceElem_spec hC hse
   unfold appendZ at h
   split at h
   ·rename_i ty hty'
    obtain ⟨_,d,_,hd,_,hk,_,_⟩:=tyOf_spec (hC.ty _ _ hty')
    split at h
    ·rename_i k' hkk
     rw [hkk] at hk
     cases d <;> simp [tkOf] at hk
     subst hk
     split at h
     ·rename_i nl els sz cap hdx
      split at h
      ·split at h
       ·rename_i n hn
        obtain ⟨k,hyv⟩:=zLen_inv hn hy
        split at h
        ·rename_i hcond
         simp only [Bool.and_eq_true,decide_eq_true_eq] at hcond
         obtain ⟨⟨hn0,hzo⟩,hsz⟩:=hcond
         rw [hdx] at hx; simp only [Rep] at hx
         have hxv:=(hx.1 trivial).2
         obtain ⟨j,rfl⟩:=Int.eq_ofNat_of_zero_le (Int.le_of_lt hn0)
         simp only [Int.toNat_natCast] at h
         have hbb:j * te.bytes≤big∧j≤big:=by
          unfold newRow at h; split at h
          ·rename_i hc; simpa using hc
          ·cases h
         have g2:j * i.bytes≤140737488355328∧j≤9223372036854775807:=by
          obtain ⟨q1,q2⟩:=hbb
          rw [u6]; unfold big at q1 q2; omega
         have hge:=grownCap_ge w j 0 e
         obtain ⟨z1,z2⟩:=zeroOk_spec hzo
         have hzs:=(zeroD_rep M m te).cells_size z1
         refine wp_newRow hR hf h hzo (zeros_RepF hzo j) (cap:=grownCap w j 0 e) (e:=e) (by simpa using hge) (grownCap_le_maxLen w _ _ _ (by simp only [maxLen]; omega)) ?_ hK
         refine hexec ?_
         rw [hxv,hyv]
         have:=run_app_zeros (ty:=o.type) (k:=k) u1 hd u3 u4 j (by omega) (by omega) (by omega) g2.2 g2.1 (w:=w)
         rw [u5] at this
         simpa using this
        ·cases h
       ·cases h
      ·cases h
     ·cases h
    ·cases h
   ·cases h
  ·cases h
 ·cases h
end
end Go.VS

namespace Go.VS
open Go Go.RowKit

section
variable {C:Cfg} {E:Env C} {M:Mem} {m:Loc} {w:World} {g':Nat→Option Ob} {a:Act} {o:Oper} {nxt:Nat} {r:Out} {gT:Nat→D}
 {next:Act→World→Prop} {Q:Exit→Act→World→Prop}

theorem intOfD_inv {d:D} {i:Int} {v:Value} (h:intOfD d=some i) (hv:Rep M m d v):∃ k,v=.int k i:=by
 unfold intOfD at h
 split at h
 ·rename_i u
  simp only [Rep] at hv; subst hv
  split at h
  ·rename_i k n; cases h; exact ⟨k,rfl⟩
  ·cases h
 ·cases h
theorem i64Of_inv {d:D} {i:Int} {v:Value} (h:i64Of d=some i) (hv:Rep M m d v):v=.int .i64 i:=by
 unfold i64Of at h
 split at h
 ·rename_i u
  simp only [Rep] at hv; subst hv
  split at h
  ·rename_i k n
   split at h
   ·cases h; rfl
   ·cases h
  ·cases h
 ·cases h

theorem binOp_sound (hC:CfgOK C) {op:BinOp} {t:TypeId} {x y:Operand} {z:TypeId} (ho:o.op=.binOp op t x y z)
  (h:justO nxt (binD C t (isConstO x || isConstO y) op (zQ C gT x) (zQ C gT y))=some r) (hG:yx C M)
  (hT:∀ t,Rep M m (gT t) (a.tmps.getD t undef)) (hR:Rel E M m w g')
  (hK:OpK E M m g' nxt r (fun v w'=>next (a.put o.dst v) w')):o.wp C.P a w next Q:=by
 obtain ⟨e,he,hr⟩:=justO_inv h
 obtain ⟨v,hv,hrv⟩:=binD_sound (w:=w) hC he (yb hG hT x) (yb hG hT y) rfl
 refine wp_pure (v:=v) hR hr ?_ hrv hK
 unfold execOp; simp only [ho]
 exact run_vE hv
theorem move_sound {x:Operand} (ho:o.op=.move x ∨ o.op=.assign x) (h:just nxt (zQ C gT x)=some r) (hG:yx C M)
  (hT:∀ t,Rep M m (gT t) (a.tmps.getD t undef)) (hR:Rel E M m w g')
  (hK:OpK E M m g' nxt r (fun v w'=>next (a.put o.dst v) w')):o.wp C.P a w next Q:=by
 refine wp_pure (v:=a.eval x) hR (just_inv h) ?_ (yb hG hT x) hK
 unfold execOp
 rcases ho with ho | ho <;> simp only [ho,Sem.run_pure]

theorem indexAddr_sound (hC:CfgOK C) {t:TypeId} {x y:Operand} (ho:o.op=.indexAddr t x y) (h:evIndexAddr C nxt t (zQ C gT x) (zQ C gT y)=some r) (hG:yx C M)
  (hT:∀ t,Rep M m (gT t) (a.tmps.getD t undef)) (hR:Rel E M m w g')
  (hK:OpK E M m g' nxt r (fun v w'=>next (a.put o.dst v) w')):o.wp C.P a w next Q:=by
 have hx:=yb hG hT x
 have hy:=yb hG hT y
 unfold evIndexAddr at h
 split at h
 ·rename_i ty i ht hi
  obtain ⟨k,hyv⟩:=intOfD_inv hi hy
  obtain ⟨_,d,_,hd,_,hk,_,_⟩:=tyOf_spec (hC.ty _ _ ht)
  split at h
  ·rename_i h0
   split at h
   ·rename_i e hkk
    rw [hkk] at hk
    cases d <;> simp [tkOf] at hk
    subst hk
    split at h
    ·rename_i te hte
     have hrun:∀ (ad:Addr) (len c:Nat),i < (len:Int)→a.eval x=.slice (some ad) len c→(execOp a.eval o).run C.P w=.ok (.value (.pointer (some (ad.add (i.toNat * te.size))))) w:=by
      intro ad len c hlt hxv
      unfold execOp; simp only [ho,hxv,hyv]; refine run_vE ?_
      simp [Instr.indexAt,asIntOf,zw hd,h0,hlt,run_sizeOf' (hC.ty _ _ hte)]
     unfold ixSlice at h
     split at h
     ·rename_i nl els sz cap hdx
      split at h
      ·rename_i hc
       simp only [Bool.and_eq_true,Bool.not_eq_true',decide_eq_true_eq] at hc
       obtain ⟨hc1,hc2⟩:=hc
       subst hc1 hc2
       split at h
       ·rename_i d' hd'
        rw [hdx] at hx; simp only [Rep] at hx
        obtain ⟨b,off,sp,c,h1,hs0,h2,h3,h4,h5⟩:=hx.2 trivial
        obtain rfl:=hs0 (by rintro rfl; simp at hd')
        obtain ⟨u,q1,q2,q3⟩:=h5.get hd'
        have hlt:i < (els.length:Int):=by have:=(List.getElem?_eq_some_iff.1 hd').1; omega
        refine wp_pure (v:=.pointer (some ⟨b,off+i.toNat * te.size,none⟩)) hR (just_inv h) ?_ ?_ hK
        ·rw [hrun _ _ _ hlt h1,addr_add]
        ·simp only [Rep]; exact ⟨b,_,u,rfl,q1,q3⟩
       ·cases h
      ·cases h
     ·rename_i k' off len sz cap hdx
      split at h
      ·rename_i hc
       simp only [Bool.and_eq_true,decide_eq_true_eq] at hc
       obtain ⟨hc1,hc2⟩:=hc
       subst hc1
       rw [hdx] at hx; simp only [Rep] at hx
       obtain ⟨b,s,c,q1,q2,_⟩:=hx
       refine wp_pure (v:=.pointer (some ⟨b,off * te.size+i.toNat * te.size,none⟩)) hR (just_inv h) ?_ ?_ hK
       ·rw [hrun _ _ _ (by omega) q2,addr_add]
       ·simp only [Rep]; exact ⟨b,s,q1,by rw [Nat.add_mul,Nat.add_zero]⟩
      ·cases h
     ·cases h
    ·cases h
   ·rename_i n e hkk
    rw [hkk] at hk
    cases d <;> simp [tkOf] at hk
    obtain ⟨rfl,rfl⟩:=hk
    split at h
    ·rename_i te hte
     have hrun:∀ (ad:Addr),i < (n:Int)→a.eval x=.pointer (some ad)→(execOp a.eval o).run C.P w=.ok (.value (.pointer (some (ad.add (i.toNat * te.size))))) w:=by
      intro ad hlt hxv
      unfold execOp; simp only [ho,hxv,hyv]; refine run_vE ?_
      simp [Instr.indexAt,asIntOf,zw hd,Instr.sureAddr,h0,hlt,run_sizeOf' (hC.ty _ _ hte)]
     unfold ixArr at h
     split at h
     ·rename_i hlt
      split at h
      ·rename_i k' j sz sub hdx
       rw [hdx] at hx; simp only [Rep] at hx
       obtain ⟨b,s,q1,q2⟩:=hx
       refine wp_pure (v:=.pointer (some ⟨b,j * sz+sub+i.toNat * te.size,none⟩)) hR (just_inv h) ?_ ?_ hK
       ·rw [hrun _ (by omega) q2,addr_add]
       ·simp only [Rep]; exact ⟨b,s,q1,by rw [Nat.add_assoc]⟩
      ·rename_i d' hdx
       split at h
       ·rename_i e' he'
        rw [hdx] at hx; simp only [Rep] at hx
        obtain ⟨b,off,u,q1,q2,q3⟩:=hx
        obtain ⟨v,hv,_,hcl⟩:=partD_sound q2 he'
        refine wp_pure (v:=.pointer (some ⟨b,off+i.toNat * te.size,none⟩)) hR (just_inv h) ?_ ?_ hK
        ·rw [hrun _ (by omega) q1,addr_add]
        ·simp only [Rep]
         refine ⟨b,_,v,rfl,hv,fun j y hy=>?_⟩
         rw [Nat.add_assoc]; exact q3 _ _ (hcl j y hy)
       ·cases h
      ·cases h
     ·cases h
    ·cases h
   ·cases h
  ·cases h
 ·cases h

theorem index_sound (hC:CfgOK C) {t:TypeId} {x y:Operand} (ho:o.op=.index t x y) (h:evIndex C nxt t (zQ C gT x) (zQ C gT y)=some r) (hG:yx C M)
  (hT:∀ t,Rep M m (gT t) (a.tmps.getD t undef)) (hR:Rel E M m w g')
  (hK:OpK E M m g' nxt r (fun v w'=>next (a.put o.dst v) w')):o.wp C.P a w next Q:=by
 have hx:=yb hG hT x
 have hy:=yb hG hT y
 unfold evIndex at h
 split at h
 ·rename_i ty i ht hi
  obtain ⟨k,hyv⟩:=intOfD_inv hi hy
  obtain ⟨_,d,_,hd,_,hk,_,_⟩:=tyOf_spec (hC.ty _ _ ht)
  split at h
  ·rename_i h0
   split at h
   ·rename_i n e hkk
    rw [hkk] at hk
    cases d <;> simp [tkOf] at hk
    obtain ⟨rfl,rfl⟩:=hk
    split at h
    ·rename_i te hte
     unfold ixVal at h
     split at h
     ·rename_i cs hdx
      split at h
      ·rename_i hlt
       obtain ⟨e',he',hr⟩:=justO_inv h
       rw [hdx] at hx
       obtain ⟨v,hv,hsh,hcl⟩:=partD_sound hx he'
       simp only [Rep] at hx
       obtain ⟨vs,hx1,_⟩:=hx
       refine wp_pure (v:=v) hR hr ?_ hv hK
       unfold execOp; simp only [ho,hx1,hyv]; refine run_vE ?_
       have hlt':i < (n:Int):=by omega
       simp only [Instr.index,asIntOf,Sem.run_bind,Sem.run_pure,Result.andThen_ok,zw hd,h0,hlt',true_and,and_self,if_true,run_sizeOf' (hC.ty _ _ hte)]
       refine run_part' (hC.ty _ _ hte) ?_
       rw [hx1] at hsh
       simp only [Value.cells] at hsh
       rcases hsh with ⟨q1,q2,_⟩ | ⟨q1,q2,_⟩
       ·exact .inl ⟨q1,q2⟩
       ·exact .inr ⟨q1,q2⟩
      ·cases h
     ·cases h
    ·cases h
   ·rename_i hkk
    rw [hkk] at hk
    cases d <;> simp [tkOf] at hk
    unfold ixStr at h
    split at h
    ·rename_i v hdx
     split at h
     ·rename_i s
      split at h
      ·rename_i b hb
       rw [hdx] at hx; simp only [Rep] at hx
       refine wp_pure (v:=.int .u8 b.toNat) hR (just_inv h) ?_ (by simp only [Rep]) hK
       unfold execOp; simp only [ho,hx,hyv]; refine run_vE ?_
       simp only [Instr.index,asIntOf,Sem.run_bind,Sem.run_pure,Result.andThen_ok,zw hd,h0,if_true,hb]
      ·cases h
     ·cases h
    ·cases h
   ·cases h
  ·cases h
 ·cases h

def OB (v:Option Value) (n:Option Nat):Prop:=(v=none∧n=none) ∨ ∃ k i,v=some (.int k i)∧0≤i∧n=some i.toNat
theorem optBound_sound (hG:yx C M) (hT:∀ t,Rep M m (gT t) (a.tmps.getD t undef)) {x:Option Operand} {n:Option Nat} (h:optBound (x.map (zQ C gT))=some n):OB (x.map a.eval) n:=by
 cases x with
 | none=>simp only [Option.map_none,optBound,Option.some.injEq] at h; subst h; exact .inl ⟨rfl,rfl⟩
 | some x =>
  have hx:=yb hG hT x
  simp only [Option.map_some,optBound] at h
  split at h
  ·rename_i k hk
   cases h
   unfold boundD at hk
   split at hk
   ·rename_i kk i hd
    split at hk
    ·rename_i h0
     cases hk
     rw [hd] at hx; simp only [Rep] at hx
     exact .inr ⟨kk,i,by simp [hx],h0,rfl⟩
    ·cases hk
   ·cases hk
  ·cases h
theorem run_bound {k:IntKind} {i:Int} {n:Nat} {code:BoundsCode} {P:Program} (h0:0≤i) (hn:i.toNat≤n):(Instr.sliceBound (.int k i) n code).run P w=.ok i.toNat w:=by
 have:i≤(n:Int):=by omega
 simp [Instr.sliceBound,asIntOf,h0,this]
theorem run_bounds {P:Program} {sl:Bool} {len cap:Nat} {lo hi mx:Option Value} {l h m:Option Nat} (hl:OB lo l) (hh:OB hi h) (hm:OB mx m) (c0:m.isNone=true ∨ h.isSome=true)
  (h1:l.getD 0≤h.getD len) (h2:h.getD len≤m.getD cap) (h3:m.getD cap≤cap):(Instr.sliceBounds sl len cap lo hi mx).run P w=.ok (l.getD 0,h.getD len,m.getD cap) w:=by
 rcases hm with ⟨rfl,rfl⟩ | ⟨km,im,rfl,m0,rfl⟩ <;> rcases hh with ⟨rfl,rfl⟩ | ⟨kh,ih,rfl,g0,rfl⟩ <;> rcases hl with ⟨rfl,rfl⟩ | ⟨kl,il,rfl,l0,rfl⟩ <;>
  simp only [Option.getD_some,Option.getD_none,Option.isNone_some,Option.isNone_none,Option.isSome_some,Option.isSome_none,or_true,true_or,or_self,Bool.false_eq_true] at h1 h2 h3 c0 ⊢ <;>
  simp only [Instr.sliceBounds,Sem.run_bind,Sem.run_pure,Result.andThen_ok]
 ·simp only [run_bound l0 h1,Result.andThen_ok,Sem.run_pure,Option.getD_none]
 ·simp only [run_bound g0 h2,Result.andThen_ok,Sem.run_pure]
 ·simp only [run_bound g0 h2,run_bound l0 h1,Result.andThen_ok,Sem.run_pure]
 ·simp only [run_bound m0 h3,run_bound g0 h2,Result.andThen_ok,Sem.run_pure]
 ·simp only [run_bound m0 h3,run_bound g0 h2,run_bound l0 h1,Result.andThen_ok,Sem.run_pure]

theorem slice_sound (hC:CfgOK C) {objs:List (Nat × Ob)} {t:TypeId} {x:Operand} {lo hi mx:Option Operand} (ho:o.op=.slice t x lo hi mx)
  (h:evSlice C objs nxt t (zQ C gT x) (lo.map (zQ C gT)) (hi.map (zQ C gT)) (mx.map (zQ C gT))=some r) (hG:yx C M)
  (hT:∀ t,Rep M m (gT t) (a.tmps.getD t undef)) (hR:Rel E M m w g') (hag:∀ k∈r.rd,g' k=zB objs k)
  (hK:OpK E M m g' nxt r (fun v w'=>next (a.put o.dst v) w')):o.wp C.P a w next Q:=by
 have hx:=yb hG hT x
 unfold evSlice at h
 split at h
 ·rename_i l hh mm hl hhi hmm
  have ol:=optBound_sound hG hT hl
  have oh:=optBound_sound hG hT hhi
  have om:=optBound_sound hG hT hmm
  split at h
  ·rename_i d hd
   cases h
   suffices hs:∃ v,(Instr.sliceAt t (a.eval x) (lo.map a.eval) (hi.map a.eval) (mx.map a.eval)).run C.P w=.ok v w∧Rep M m d v by
    obtain ⟨v,hv,hrv⟩:=hs
    refine wp_pure (v:=v) hR rfl ?_ hrv hK
    unfold execOp; simp only [ho]; exact run_vE hv
   unfold sliceOf at hd
   split at hd
   ·rename_i ty ht
    obtain ⟨_,dt,_,hdt,_,hk,_,_⟩:=tyOf_spec (hC.ty _ _ ht)
    split at hd
    ·rename_i hkk
     rw [hkk] at hk
     cases dt <;> simp [tkOf] at hk
     unfold strSlice at hd
     split at hd
     ·rename_i v hdx
      split at hd
      ·rename_i s
       split at hd
       ·rename_i hc
        simp only [Bool.and_eq_true,decide_eq_true_eq] at hc
        obtain ⟨⟨c1,c2⟩,c3⟩:=hc
        cases hd
        rw [hdx] at hx; simp only [Rep] at hx
        have hmx:mm=none:=by simpa using c1
        subst hmx
        have hmv:mx.map a.eval=none:=by rcases om with ⟨q,_⟩ | ⟨_,_,_,_,q⟩; exact q; cases q
        refine ⟨.string (s.extract (l.getD 0) (hh.getD s.size)),?_,by simp only [Rep]⟩
        simp only [Instr.sliceAt,Instr.slice,Sem.run_bind,zw hdt,Result.andThen_ok,hx,hmv,Option.isSome_none,Bool.false_eq_true,if_false,Sem.run_pure]
        rw [run_bounds ol oh (.inl ⟨rfl,rfl⟩) (.inl rfl) c3 (by simpa using c2) (by simp)]
        simp only [Result.andThen_ok,Sem.run_pure]
       ·cases hd
      ·cases hd
     ·cases hd
    ·rename_i e hkk
     rw [hkk] at hk
     cases dt <;> simp [tkOf] at hk
     subst hk
     split at hd
     ·rename_i te hte
      have hrun:∀ (A:Option Addr) (len c:Nat),a.eval x=.slice A len c→(mm.isNone=true ∨ hh.isSome=true)→l.getD 0≤hh.getD len→hh.getD len≤mm.getD c→mm.getD c≤c →
        (Instr.sliceAt t (a.eval x) (lo.map a.eval) (hi.map a.eval) (mx.map a.eval)).run C.P w =
         .ok (.slice (if mm.getD c=l.getD 0 then A else A.map (·.add (l.getD 0 * te.size))) (hh.getD len - l.getD 0) (mm.getD c - l.getD 0)) w:=by
       intro A len c hxv q0 q1 q2 q3
       simp only [Instr.sliceAt,Instr.slice,Sem.run_bind,zw hdt,Result.andThen_ok,hxv]
       rw [run_bounds ol oh om q0 q1 q2 q3]
       simp only [Result.andThen_ok,Sem.run_pure,Sem.run_bind,run_sizeOf' (hC.ty _ _ hte)]
      split at hd
      ·rename_i nl els sz cap hdx
       rw [hdx] at hx; simp only [Rep] at hx
       unfold slSlice at hd
       split at hd
       ·split at hd
        ·rename_i hc
         simp only [Bool.and_eq_true,Bool.or_eq_true,decide_eq_true_eq] at hc
         obtain ⟨⟨⟨c1,c2⟩,c3⟩,c4⟩:=hc
         cases hd
         refine ⟨_,hrun none 0 0 (hx.1 rfl).2 c4 (by omega) (by omega) (by omega),?_⟩
         simp only [Rep]
         refine ⟨fun _=>⟨by simp,?_⟩,by simp⟩
         rw [c1,c2,c3]; simp
        ·cases hd
       ·split at hd
        ·rename_i hc
         simp only [Bool.and_eq_true,Bool.or_eq_true,decide_eq_true_eq] at hc
         obtain ⟨⟨⟨⟨⟨c1,c2⟩,c3⟩,c4⟩,c5⟩,c6⟩:=hc
         cases hd
         subst c1
         obtain ⟨b,off,sp,c,h1,hs0,h2,h3,h4,h5⟩:=hx.2 rfl
         have e1:mm.getD c≤c:=by cases mm with | none=>simp | some q=>simp at c6 ⊢; omega
         have e2:hh.getD els.length≤mm.getD c:=by cases mm with | none=>simp; omega | some q=>simpa using c5
         refine ⟨_,hrun _ _ _ h1 c2 c4 e2 e1,?_⟩
         simp only [Rep]
         refine ⟨by simp,fun _=>?_⟩
         have hlen:((els.take (hh.getD els.length)).drop (l.getD 0)).length=hh.getD els.length - l.getD 0:=by simp; omega
         have hcap:∀ k,capBehind cap (l.getD 0) mm=some k→mm.getD c - l.getD 0=k:=by
          intro k hk
          cases mm with
          | some q=>simpa [capBehind] using hk
          | none =>
           cases cap with
           | none=>simp [capBehind] at hk
           | some q=>have:=h4 q rfl; simp [capBehind] at hk ⊢; omega
         rw [hlen]
         by_cases hml:mm.getD c=l.getD 0
         ·rw [if_pos hml]
          have h0:hh.getD els.length - l.getD 0=0:=by omega
          refine ⟨b,off,sp,_,rfl,fun hq=>absurd (List.eq_nil_of_length_eq_zero (by rw [hlen]; exact h0)) hq,by omega,by omega,hcap,?_⟩
          have hnil:(els.take (hh.getD els.length)).drop (l.getD 0)=[]:=List.eq_nil_of_length_eq_zero (by rw [hlen]; exact h0)
          rw [hnil]
          simp [RepE]
         ·rw [if_neg hml]
          by_cases he:els=[]
          ·have hl0:l.getD 0=0:=by
            have h0:els.length=0:=by rw [he]; rfl
            omega
           have hnil:(els.take (hh.getD els.length)).drop (l.getD 0)=[]:=by rw [he]; simp
           refine ⟨b,off,sp,_,by simp [hl0,Addr.add],fun hq=>absurd hnil hq,by omega,by omega,hcap,?_⟩
           rw [hnil]
           simp [RepE]
          obtain rfl:=hs0 he
          refine ⟨b,off+l.getD 0 * te.size,none,_,by simp [addr_add],fun _=>rfl,by omega,by omega,hcap,?_⟩
          refine RepE.ofGet fun i d' hd'=>?_
          rw [List.getElem?_drop,List.getElem?_take] at hd'
          split at hd'
          ·obtain ⟨u,q1,q2,q3⟩:=h5.get hd'
           refine ⟨u,q1,q2,?_⟩
           rw [Nat.add_mul] at q3
           rwa [Nat.add_assoc]
          ·cases hd'
        ·cases hd
      ·rename_i k off len sz cap hdx
       rw [hdx] at hx; simp only [Rep] at hx
       obtain ⟨b,s,c,q1,q2,q3,q4,q5,q6,q7⟩:=hx
       unfold lslSlice at hd
       split at hd
       ·rename_i hc
        simp only [Bool.and_eq_true,Bool.or_eq_true,decide_eq_true_eq] at hc
        obtain ⟨⟨⟨⟨c1,c2⟩,c3⟩,c4⟩,c5⟩:=hc
        cases hd
        subst c1
        have hreach:mm.getD (hh.getD len)≤c:=by
         unfold reaches at c5
         simp only [Bool.or_eq_true,decide_eq_true_eq] at c5
         rcases c5 with c5 | c5
         ·omega
         ·split at c5
          ·cases c5
          ·split at c5
           ·rename_i ob hob
            simp only [Bool.and_eq_true,decide_eq_true_eq] at c5
            obtain ⟨⟨d1,d2⟩,d3⟩:=c5
            have hgk:g' k=some ob:=by rw [hag k (by simp [hdx,rdOf]),hob]
            obtain ⟨b',s',cur,tc,w1,w2,w3,w4⟩:=hR.ro.at_ k ob hgk
            rw [q1] at w1; cases w1
            have:=w4.1
            rw [d1,w3,← q7 rfl] at this
            have:=Nat.le_of_mul_le_mul_right this d2
            omega
           ·cases c5
        have e1:mm.getD c≤c:=by cases mm with | none=>simp | some q=>simpa using hreach
        have e2:hh.getD len≤mm.getD c:=by cases mm with | none=>simpa using hreach | some q=>simpa using c4
        refine ⟨_,hrun _ _ _ q2 c2 c3 e2 e1,?_⟩
        have hcap:∀ k,capBehind cap (l.getD 0) mm=some k→mm.getD c - l.getD 0=k:=by
         intro k hk
         cases mm with
         | some q=>simpa [capBehind] using hk
         | none =>
          cases cap with
          | none=>simp [capBehind] at hk
          | some q=>have:=q6 q rfl; simp [capBehind] at hk ⊢; omega
        by_cases hlh:l.getD 0=hh.getD len
        ·rw [if_pos hlh]
         by_cases hz:(decide (l.getD 0=0) && decide (0 < len) && mm.isNone)=true
         ·rw [if_pos hz]
          simp only [Bool.and_eq_true,decide_eq_true_eq] at hz
          obtain ⟨⟨z1,z2⟩,z3⟩:=hz
          have hmm:mm=none:=by cases mm with | none=>rfl | some q=>simp at z3
          subst hmm
          have hh0:hh.getD len=0:=by omega
          have hml:c ≠ 0:=by omega
          simp only [Option.getD_none,z1,hh0]
          rw [if_neg hml]
          simp only [Rep]
          refine ⟨b,s,c,q1,by simp [addr_add],by omega,by omega,?_,?_,?_⟩
          ·refine Nat.le_trans (Nat.mul_le_mul_right _ ?_) q5
           omega
          ·exact q6
          ·exact q7
         rw [if_neg hz]
         simp only [Rep]
         refine ⟨by simp,fun _=>?_⟩
         by_cases hml:mm.getD c=l.getD 0
         ·rw [if_pos hml]
          exact ⟨b,off * te.size,none,_,by simp only [List.length_nil]; congr 1; omega,fun _=>rfl,by simp,by omega,hcap,by simp [RepE]⟩
         ·rw [if_neg hml]
          exact ⟨b,off * te.size+l.getD 0 * te.size,none,_,by simp only [List.length_nil,Option.map_some,addr_add]; congr 1; omega,fun _=>rfl,by simp,by omega,hcap,by simp [RepE]⟩
        ·rw [if_neg hlh]
         have hml:mm.getD c ≠ l.getD 0:=by omega
         rw [if_neg hml]
         simp only [Rep]
         refine ⟨b,s,_,q1,by simp only [Option.map_some,addr_add,Nat.add_mul],by omega,by omega,?_,hcap,?_⟩
         ·refine Nat.le_trans (Nat.mul_le_mul_right _ ?_) q5
          omega
         ·intro hcb
          cases mm with
          | some q=>simp [capBehind] at hcb
          | none =>
           cases cap with
           | some q=>simp [capBehind] at hcb
           | none =>
            rw [← q7 rfl]
            simp only [Option.getD_none] at hml e2 ⊢
            congr 1; omega
       ·cases hd
      ·cases hd
     ·cases hd
    ·cases hd
   ·cases hd
  ·cases h
 ·cases h
end
end Go.VS

namespace Go.VS
open Go Go.RowKit

section
variable {C:Cfg} {E:Env C} {M:Mem} {m:Loc} {w:World} {g':Nat→Option Ob} {a:Act} {o:Oper} {nxt:Nat} {r:Out} {gT:Nat→D}
 {next:Act→World→Prop} {Q:Exit→Act→World→Prop}

theorem makeSlice_sound (hC:CfgOK C) {t:TypeId} {x y:Operand} (ho:o.op=.makeSlice t x y) (h:evMakeSlice C nxt t (zQ C gT x) (zQ C gT y)=some r) (hG:yx C M)
  (hT:∀ t,Rep M m (gT t) (a.tmps.getD t undef)) (hR:Rel E M m w g') (hf:∀ k,nxt≤k→k < r.nxt→m k=none)
  (hK:OpK E M m g' nxt r (fun v w'=>next (a.put o.dst v) w')):o.wp C.P a w next Q:=by
 have hx:=yb hG hT x
 have hy:=yb hG hT y
 unfold evMakeSlice at h
 split at h
 ·rename_i te hse
  obtain ⟨e,i,u1,u2,u3,u4,u5,u6⟩:=sliceElem_spec hC hse
  split at h
  ·rename_i n n' h1 h2
   have hxv:=i64Of_inv h1 hx
   have hyv:=i64Of_inv h2 hy
   split at h
   ·rename_i hc
    simp only [Bool.and_eq_true,decide_eq_true_eq] at hc
    obtain ⟨⟨⟨⟨rfl,c1⟩,c2⟩,c3⟩,c4⟩:=hc
    cases h
    obtain ⟨k,rfl⟩:=Int.eq_ofNat_of_zero_le c1
    simp only [Int.toNat_natCast] at c2 ⊢
    have hb:(i.bytes:Int) * (k:Int)≤281474976710656:=by
     rw [← u6] at c2
     have:((i.bytes * k:Nat):Int)≤281474976710656:=by rw [Nat.mul_comm]; unfold big at c2; omega
     rwa [Int.natCast_mul] at this
    have hmax:(k:Int)≤9223372036854775807:=by unfold big at c3; omega
    have hrun:=run_make (P:=C.P) w t e i te.zero u1 u3 u4 .i64 .i64 (k:Int) (k:Int) c1 (Int.le_refl _) hb hmax
    simp only [Int.toNat_natCast,u5] at hrun
    have hsz:(madeCells te.zero.cells (k * te.size)).size=k * te.size:=size_madeCells _ _
    refine wp_new (cs:=madeCells te.zero.cells (k * te.size)) (t:=e) (v:=.slice (some ⟨w.heap.size,0,none⟩) k k) hR hf rfl ?_ ?_ ?_ hK
    ·unfold execOp; simp only [ho,hxv,hyv]; exact run_vE hrun
    ·refine RepR.ofF (zeros_RepF c4 k) (fun j _=>?_) (by simp [zerosOf,hsz])
     simp only [madeCells,zerosOf,Array.getElem?_toList]
    ·simp only [Rep]
     rw [hsz]
     exact ⟨w.heap.size,k * te.size,k,by simp [yt],by simp,Nat.le_refl _,by simp only [maxLen]; omega,by simp,by simp,by simp⟩
   ·cases h
  ·cases h
 ·cases h

theorem RepF.set {xs:List D} {sz:Nat} {news:List Value} (h:RepF M m xs sz news) {i:Nat} {d:D} {v:Value} (hi:i < xs.length) (hv:Rep M m d v) (hs:v.cells.size=sz) :
  RepF M m (xs.set i d) sz (news.take (i * sz)++v.cells.toList++news.drop (i * sz+v.cells.toList.length)):=by
 have h4:(i+1) * sz≤xs.length * sz:=Nat.mul_le_mul_right _ hi
 rw [Nat.add_mul] at h4
 have hl:=h.1
 have hle:i * sz+v.cells.toList.length≤news.length:=by simp only [Array.length_toList]; omega
 refine ⟨?_,fun k e he=>?_⟩
 ·simp only [List.length_append,List.length_take,List.length_drop,List.length_set]; simp only [Array.length_toList] at hle ⊢; omega
 ·rw [List.getElem?_set] at he
  split at he
  ·rename_i hik
   subst hik
   have he:d=e:=by simpa [hi] using he
   subst he
   refine ⟨v,hv,hs,fun j y hy=>?_⟩
   have hj:j < sz:=by have:=(Array.getElem?_eq_some_iff.1 hy).1; omega
   rw [seg_get hle,if_neg (by omega),if_pos (by simp only [Array.length_toList]; omega)]
   rw [show i * sz+j - i * sz=j by omega]; simpa using hy
  ·rename_i hik
   obtain ⟨u,q1,q2,q3⟩:=h.2 k e he
   refine ⟨u,q1,q2,fun j y hy=>?_⟩
   have hj:j < sz:=by have:=(Array.getElem?_eq_some_iff.1 hy).1; omega
   have hold:=q3 j y hy
   rw [seg_get hle]
   rcases Nat.lt_or_gt_of_ne hik with hlt | hgt
   ·have:(i+1) * sz≤k * sz:=Nat.mul_le_mul_right _ hlt
    rw [Nat.add_mul] at this
    rw [if_neg (by omega),if_neg (by simp only [Array.length_toList]; omega)]; exact hold
   ·have:(k+1) * sz≤i * sz:=Nat.mul_le_mul_right _ hgt
    rw [Nat.add_mul] at this
    rw [if_pos (by omega)]; exact hold

theorem fillEls_sound (hG:yx C M) (hT:∀ t,Rep M m (gT t) (a.tmps.getD t undef)) {sz:Nat}:∀ (ps:List (Nat × Operand)) (cs cs':List D) (vs:Array Value),
  fillEls sz cs (ps.map (argP C gT))=some cs'→RepF M m cs sz vs.toList →
  ∃ vs',Instr.fill (fun i=>some (i * sz,sz)) vs (ps.map fun (i,x)=>(i,a.eval x))=some vs'∧RepF M m cs' sz vs'.toList∧cs'.length=cs.length
 | [],cs,cs',vs,h,hr=>by
  simp only [List.map_nil,fillEls,Option.some.injEq] at h; subst h
  exact ⟨vs,rfl,hr,rfl⟩
 | (i,x)::ps,cs,cs',vs,h,hr=>by
  simp only [List.map_cons,argP,fillEls] at h
  split at h
  ·rename_i hc
   simp only [Bool.and_eq_true,decide_eq_true_eq] at hc
   obtain ⟨⟨h1,h2⟩,h3⟩:=hc
   have hx:=yb hG hT x
   have hsz:=hx.cells_size h1
   have hset:=hr.set h3 hx (by omega)
   have h4:(i+1) * sz≤cs.length * sz:=Nat.mul_le_mul_right _ h3
   rw [Nat.add_mul] at h4
   have hvl:=hr.1
   simp only [Array.length_toList] at hvl
   have hle:i * sz+(a.eval x).cells.size≤vs.size:=by omega
   have hfold:=foldSet_toList (i * sz) (a.eval x).cells vs hle
   rw [← hfold] at hset
   obtain ⟨vs',f1,f2,f3⟩:=fillEls_sound hG hT ps _ cs' _ h hset
   refine ⟨vs',?_,f2,by rw [f3]; simp⟩
   simp only [List.map_cons,Instr.fill]
   rw [if_neg (by simp only [Bool.or_eq_true,decide_eq_true_eq]; omega)]
   exact f1
  ·cases h

theorem buildSlice_sound (hC:CfgOK C) {t:TypeId} {len:Nat} {ps:Array (Nat × Operand)} (ho:o.op=.buildSlice t len ps) (h:evBuildSlice C nxt t len (ps.toList.map (argP C gT))=some r)
  (hG:yx C M) (hT:∀ t,Rep M m (gT t) (a.tmps.getD t undef)) (hR:Rel E M m w g') (hf:∀ k,nxt≤k→k < r.nxt→m k=none)
  (hK:OpK E M m g' nxt r (fun v w'=>next (a.put o.dst v) w')):o.wp C.P a w next Q:=by
 unfold evBuildSlice at h
 split at h
 ·rename_i te hse
  obtain ⟨e,i,u1,u2,u3,u4,u5,u6⟩:=sliceElem_spec hC hse
  split at h
  ·rename_i hc
   simp only [Bool.and_eq_true,decide_eq_true_eq] at hc
   obtain ⟨⟨hz,hlim⟩,hpos⟩:=hc
   split at h
   ·rename_i els hels
    cases h
    obtain ⟨vs',f1,f2,f3⟩:=fillEls_sound hG hT ps.toList _ els _ hels (zeros_RepF (M:=M) (m:=m) hz len)
    have hlen:els.length=len:=by rw [f3]; simp
    have hvs:vs'.size=len * te.size:=by have:=f2.1; simpa [hlen] using this
    obtain ⟨z1,z2⟩:=zeroOk_spec hz
    have hzs:=(zeroD_rep M m te).cells_size z1
    refine wp_new (cs:=vs') (t:=e) (v:=.slice (some ⟨w.heap.size,0,none⟩) len len) hR hf rfl ?_ ?_ ?_ hK
    ·unfold execOp; simp only [ho]; refine run_vE ?_
     have hlim':¬ (2 ^ 24 < len * te.size):=by omega
     have hparts:(ps.map fun (p:Nat × Operand)=>(p.1,a.eval p.2)).toList=ps.toList.map fun (i,x)=>(i,a.eval x):=by simp
     by_cases h0:len * te.size=0
     ·have hr0:Array.range 0=#[]:=rfl
      have f1':Instr.fill (fun i=>some (i * te.size,te.size)) #[] (ps.map fun (p:Nat × Operand)=>(p.1,a.eval p.2)).toList=some vs':=by
       rw [hparts]
       simp only [zerosOf,h0,hr0,Array.map_empty] at f1; exact f1
      simp only [Instr.buildSlice,Sem.run_bind,zw u1,Result.andThen_ok,run_sizeOf' u2,h0,gt_iff_lt,Nat.not_lt_zero,if_false,if_true,Sem.run_pure,hr0,Array.map_empty,f1']
      simp only [Go.newRow,Sem.run_bind,run_newObj,Result.andThen_ok,Sem.run_pure]
      rfl
     ·simp only [Instr.buildSlice,Sem.run_bind,zw u1,Result.andThen_ok,run_sizeOf' u2,gt_iff_lt,hlim',if_false,Sem.run_pure,h0,run_zeroValue' u2]
      have f1':Instr.fill (fun i=>some (i * te.size,te.size)) ((Array.range (len * te.size)).map fun i=>te.zero.cells[i % te.zero.cells.size]!) (ps.map fun (p:Nat × Operand)=>(p.1,a.eval p.2)).toList=some vs':=by
       rw [hparts]; exact f1
      rw [f1']
      simp only [Go.newRow,Sem.run_bind,run_newObj,Result.andThen_ok,Sem.run_pure]
      rfl
    ·refine RepR.ofF f2 (fun j _=>by simp) (by simp)
    ·simp only [Rep]
     rw [hvs]
     have:len≤maxLen:=by
      have:=Nat.le_mul_of_pos_right len hpos
      simp only [maxLen]; omega
     exact ⟨w.heap.size,len * te.size,len,by simp [yt],by simp,Nat.le_refl _,this,by simp,by simp,by simp⟩
   ·cases h
  ·cases h
 ·cases h
end
end Go.VS

