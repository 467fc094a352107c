/- Nothing of a statement is proved in this text alone: it is part 3 of the proof's own tools, an evaluator of the code over deep values, its soundness, and what it makes of this seat's functions. Conditions: none beyond the statement's own. -/
import Derived.Test.YtpkjnefhnedfdaaGreatDoorVsRCSets2
import Derived.Shelf.SlGeneric
import Derived.Shelf.SlLaysF0
import Derived.Ground.SlsfProg
import Derived.Shelf.Strings.OnBuilder
import Derived.Shelf.LaysM
import Derived.Shelf.Strconv.Itoa3
import Derived.Test.YtpkjnefhnedfdaaGreatDoorProg
import Derived.Lib.LaidTab
set_option linter.unusedSimpArgs false
set_option linter.unusedVariables false
set_option maxHeartbeats 0
namespace Go.VS
open Go Go.RowKit Go.Proofs Go.Sort Go.Shelf
def isNilS:D→Bool
 |.sl nl els sz cap=>nl && els.isEmpty && eqb sz 0 && cap.isNone
 |_=>false
theorem isNilS_eq {d:D} (h:isNilS d=true):d=.sl true [] 0 none:=by
 unfold isNilS at h
 split at h
 ·rename_i nl els sz cap
  simp only [Bool.and_eq_true,List.isEmpty_iff,Option.isNone_iff_eq_none] at h
  obtain ⟨⟨⟨rfl,rfl⟩,h3⟩,rfl⟩:=h
  rw [yl.1 h3]
 ·cases h
def sortN (g:FuncId) (cf:Int × Int→Int × Int→Int) (args:List D) (objs:List (Nat × Ob)) (nxt:Nat):Option (D × List (Nat × Ob) × Nat) :=
 match args,objs with
 |[a,.fn (.func g') [] []],[]=>if isNilS a=true∧g'=g then some (.tup [],[],nxt) else none
 |args,objs=>sortX g cf args objs nxt
section
variable {C:Cfg} {ρ:Ren}
theorem sortN_ok (L:SlLaysF0.n6 C.P ρ) (hC:CfgOK C) (aE:∀w,(isAgg (ρ.t 24)).run C.P w=.ok true w) (zE:∀w,(Go.sizeOf (ρ.t 24)).run C.P w=.ok 2 w) {cf:Int × Int→Int × Int→Int} (hO:SWO (ltOf cf)) {g:Nat} {fg:Func} (hg:C.fn g=some fg)
  (hcmp:∀x y,PureQ C.P g [pairD x,pairD y] (I (cf x y))) (hnil:∀nxt,InlOK C (ρ.f 6) [.sl true [] 0 none,.fn (.func g) [] []] [] nxt (.tup []) [] nxt)
  {args:List D} {objs objs':List (Nat × Ob)} {nxt nxt':Nat} {d:D} (h:sortN g cf args objs nxt=some (d,objs',nxt')):InlOK C (ρ.f 6) args objs nxt d objs' nxt':=by
 unfold sortN at h
 split at h
 ·rename_i a g'
  split at h
  ·rename_i hc
   obtain ⟨h1,rfl⟩:=hc
   cases h
   rw [isNilS_eq h1]
   exact hnil nxt
  ·cases h
 ·exact sortX_ok L hC aE zE hO hg hcmp h
theorem sortN_nil {g:Nat} {cf:Int × Int→Int × Int→Int} (nxt:Nat):sortN g cf [.sl true [] 0 none,.fn (.func g) [] []] [] nxt=some (.tup [],[],nxt):=by
 unfold sortN
 simp [isNilS,yl.2 rfl]
theorem sortN_at {α:Type} {f:α→D} {to:α→Int × Int} {of:Int × Int→α} (hf:∀x,f x=pairD (to x)) (ho:∀p,f (of p)=pairD p) {g:Nat} {cf:Int × Int→Int × Int→Int} (o nxt:Nat) (cap:Option Nat) (l:List α) (hl:l.length≤1099511627776) :
  sortN g cf [.lsl o 0 l.length 2 cap,.fn (.func g) [] []] [(o,⟨l.map f,2,false⟩)] nxt=some (.tup [],[(o,⟨((srtP cf (l.map to)).map of).map f,2,false⟩)],nxt):=sortX_at hf ho o nxt cap l hl
end
end Go.VS

namespace Go.VS
open List (length_map)
open Go Go.RowKit Go.Proofs Go.Sort Go.Shelf
def loCmp (cf:Int × Int→Int × Int→Int):Prop:=∀x y,cf x y < 0↔x.1 < y.1
theorem loCmp.swo {cf:Int × Int→Int × Int→Int} (h:loCmp cf):SWO (ltOf cf) where
 irrefl:=fun x=>decide_eq_false fun k=>by have:=(h x x).1 k;omega
 trans:=fun x y z h1 h2=>decide_eq_true ((h x z).2 (by
  have h1:=(h x y).1 (of_decide_eq_true h1)
  have h2:=(h y z).1 (of_decide_eq_true h2)
  omega))
 ntrans:=fun x y z h1 h2=>decide_eq_false fun k=>by
  have k:=(h x z).1 k
  have h1:=mt (h x y).2 (of_decide_eq_false h1)
  have h2:=mt (h y z).2 (of_decide_eq_false h2)
  omega
def zB (cf:Int × Int→Int × Int→Int) (l:List Sn):List Sn:=(srtP cf (l.map fun s=>(s.lo,s.hi))).map fun p=>⟨p.1,p.2⟩
section
variable {cf:Int × Int→Int × Int→Int} (h:loCmp cf) (l:List Sn)
include h
theorem srtG_len:(zB cf l).length=l.length:=by unfold zB;rw [length_map,srtP_len h.swo,length_map]
theorem srtG_perm:List.Perm (zB cf l) l:=by
 have:=(srtP_perm h.swo (l.map fun s=>(s.lo,s.hi))).map fun p:Int × Int=>(⟨p.1,p.2⟩:Sn)
 rw [List.map_map] at this
 have e:((fun p:Int × Int=>(⟨p.1,p.2⟩:Sn)) ∘ fun s:Sn=>(s.lo,s.hi))=id:=rfl
 rw [e,List.map_id] at this
 exact this
theorem srtG_srt:srtS (zB cf l):=by
 unfold srtS zB
 rw [List.pairwise_map]
 refine (srtP_sorted h.swo _).imp fun {a b} k=>?_
 have k:=of_decide_eq_false k
 have:=mt (h b a).2 k
 simp only
 omega
end
def can (cf:Int × Int→Int × Int→Int) (l:List Sn):List Sn:=jnL (zB cf l)
theorem can_rg {cf:Int × Int→Int × Int→Int} (h:loCmp cf) {l:List Sn} (hl:∀s∈l,s.lo≤s.hi):Rg (In l) (can cf l):=by
 have k:=jnL_rg (l:=zB cf l) (fun s hs=>hl s ((srtG_perm h l).mem_iff.1 hs)) (srtG_srt h l)
 exact k.congr fun x=>In_perm (srtG_perm h l)
end Go.VS

namespace Go.VS.F0
open Go Go.Proofs
noncomputable def cfg:Cfg:={ P:=Tryz.prog,fn:=zy.find,ty:=zO.find,keep:=find2 keepTab,inl:=fun K=>memN K [36,38,43,44,60,61,62,63,64,69,70,72,82,87,96,103,108,110,111,112,117,121,122,132,133,134,135,136,137,138,139,144,145,146,147,158,160,161,162,172,190],ext:=fun _=>none,xinl:=fun _=>none,glob:=fun _=>none,eqok:=fun t=>(eqTab.find t).isSome }
theorem cfg_fn:cfg.fn=zy.find:=rfl
theorem cfg_ty:cfg.ty=zO.find:=rfl
theorem cfg_eqok (t:TypeId):cfg.eqok t=(eqTab.find t).isSome:=rfl
theorem cfgOK:CfgOK cfg where
 ty:=fun _ _ h=>tyTab_ok.find h
 fn:=fun _ _ h=>fnTab_ok.find h
 enter:=fun _ _ h=>enTab_ok.find h
 mixed:=by kernel_rfl
 eqok:=fun t h=>by
  have h1:(eqTab.find t).isSome=true:=h
  cases hf:eqTab.find t with
  |none=>rw [hf] at h1;cases h1
  |some u =>
   have:=eqTab_ok.find hf
   unfold eqB at this
   simp only [Bool.and_eq_true,Bool.not_eq_true'] at this
   refine ⟨this.1.1,this.1.2,fun fs hfs f hm=>?_⟩
   have h2:=this.2
   have hfs':Tryz.prog.underlying t=some (.struct fs):=hfs
   rw [hfs'] at h2
   simp only [List.all_eq_true,bne_iff_ne] at h2
   exact h2 f hm
theorem globOK {M:Mem}:yk cfg M:=fun g d h=>by cases h
theorem ck {S:Sm} {objs:List (Nat × Ob)} {nxt K:Nat} {args:List D} {fn:Func} (h:zy.find K=some fn) (hi:memN K [36,38,43,44,60,61,62,63,64,69,70,72,82,87,96,103,108,110,111,112,117,121,122,132,133,134,135,136,137,138,139,144,145,146,147,158,160,161,162,172,190]=false):zf cfg S objs nxt K args=z8 S objs nxt K args:=by
 simp only [zf,cfg_fn,h]
 rw [show cfg.inl K=memN K [36,38,43,44,60,61,62,63,64,69,70,72,82,87,96,103,108,110,111,112,117,121,122,132,133,134,135,136,137,138,139,144,145,146,147,158,160,161,162,172,190] from rfl,hi]
 rfl
theorem lck2 {S:Sm} {objs:List (Nat × Ob)} {nxt:Nat} {args:List D}:zf cfg S objs nxt 2 args=z8 S objs nxt 2 args:=ck cfn2 rfl
theorem lck3 {S:Sm} {objs:List (Nat × Ob)} {nxt:Nat} {args:List D}:zf cfg S objs nxt 3 args=z8 S objs nxt 3 args:=ck cfn3 rfl
theorem lck4 {S:Sm} {objs:List (Nat × Ob)} {nxt:Nat} {args:List D}:zf cfg S objs nxt 4 args=z8 S objs nxt 4 args:=ck cfn4 rfl
theorem lck5 {S:Sm} {objs:List (Nat × Ob)} {nxt:Nat} {args:List D}:zf cfg S objs nxt 5 args=z8 S objs nxt 5 args:=ck cfn5 rfl
theorem lck6 {S:Sm} {objs:List (Nat × Ob)} {nxt:Nat} {args:List D}:zf cfg S objs nxt 6 args=z8 S objs nxt 6 args:=ck cfn6 rfl
theorem lck7 {S:Sm} {objs:List (Nat × Ob)} {nxt:Nat} {args:List D}:zf cfg S objs nxt 7 args=z8 S objs nxt 7 args:=ck cfn7 rfl
theorem lck8 {S:Sm} {objs:List (Nat × Ob)} {nxt:Nat} {args:List D}:zf cfg S objs nxt 8 args=z8 S objs nxt 8 args:=ck cfn8 rfl
theorem lck9 {S:Sm} {objs:List (Nat × Ob)} {nxt:Nat} {args:List D}:zf cfg S objs nxt 9 args=z8 S objs nxt 9 args:=ck cfn9 rfl
theorem lck10 {S:Sm} {objs:List (Nat × Ob)} {nxt:Nat} {args:List D}:zf cfg S objs nxt 10 args=z8 S objs nxt 10 args:=ck cfn10 rfl
theorem lck11 {S:Sm} {objs:List (Nat × Ob)} {nxt:Nat} {args:List D}:zf cfg S objs nxt 11 args=z8 S objs nxt 11 args:=ck cfn11 rfl
theorem lck12 {S:Sm} {objs:List (Nat × Ob)} {nxt:Nat} {args:List D}:zf cfg S objs nxt 12 args=z8 S objs nxt 12 args:=ck cfn12 rfl
theorem lck13 {S:Sm} {objs:List (Nat × Ob)} {nxt:Nat} {args:List D}:zf cfg S objs nxt 13 args=z8 S objs nxt 13 args:=ck cfn13 rfl
theorem lck14 {S:Sm} {objs:List (Nat × Ob)} {nxt:Nat} {args:List D}:zf cfg S objs nxt 14 args=z8 S objs nxt 14 args:=ck cfn14 rfl
theorem lck15 {S:Sm} {objs:List (Nat × Ob)} {nxt:Nat} {args:List D}:zf cfg S objs nxt 15 args=z8 S objs nxt 15 args:=ck cfn15 rfl
theorem lck16 {S:Sm} {objs:List (Nat × Ob)} {nxt:Nat} {args:List D}:zf cfg S objs nxt 16 args=z8 S objs nxt 16 args:=ck cfn16 rfl
theorem lck17 {S:Sm} {objs:List (Nat × Ob)} {nxt:Nat} {args:List D}:zf cfg S objs nxt 17 args=z8 S objs nxt 17 args:=ck cfn17 rfl
theorem lck18 {S:Sm} {objs:List (Nat × Ob)} {nxt:Nat} {args:List D}:zf cfg S objs nxt 18 args=z8 S objs nxt 18 args:=ck cfn18 rfl
theorem lck19 {S:Sm} {objs:List (Nat × Ob)} {nxt:Nat} {args:List D}:zf cfg S objs nxt 19 args=z8 S objs nxt 19 args:=ck cfn19 rfl
theorem lck20 {S:Sm} {objs:List (Nat × Ob)} {nxt:Nat} {args:List D}:zf cfg S objs nxt 20 args=z8 S objs nxt 20 args:=ck cfn20 rfl
theorem lck21 {S:Sm} {objs:List (Nat × Ob)} {nxt:Nat} {args:List D}:zf cfg S objs nxt 21 args=z8 S objs nxt 21 args:=ck cfn21 rfl
theorem lck22 {S:Sm} {objs:List (Nat × Ob)} {nxt:Nat} {args:List D}:zf cfg S objs nxt 22 args=z8 S objs nxt 22 args:=ck cfn22 rfl
theorem lck23 {S:Sm} {objs:List (Nat × Ob)} {nxt:Nat} {args:List D}:zf cfg S objs nxt 23 args=z8 S objs nxt 23 args:=ck cfn23 rfl
theorem lck24 {S:Sm} {objs:List (Nat × Ob)} {nxt:Nat} {args:List D}:zf cfg S objs nxt 24 args=z8 S objs nxt 24 args:=ck cfn24 rfl
theorem lck25 {S:Sm} {objs:List (Nat × Ob)} {nxt:Nat} {args:List D}:zf cfg S objs nxt 25 args=z8 S objs nxt 25 args:=ck cfn25 rfl
theorem lck26 {S:Sm} {objs:List (Nat × Ob)} {nxt:Nat} {args:List D}:zf cfg S objs nxt 26 args=z8 S objs nxt 26 args:=ck cfn26 rfl
theorem lck27 {S:Sm} {objs:List (Nat × Ob)} {nxt:Nat} {args:List D}:zf cfg S objs nxt 27 args=z8 S objs nxt 27 args:=ck cfn27 rfl
theorem lck28 {S:Sm} {objs:List (Nat × Ob)} {nxt:Nat} {args:List D}:zf cfg S objs nxt 28 args=z8 S objs nxt 28 args:=ck cfn28 rfl
theorem lck29 {S:Sm} {objs:List (Nat × Ob)} {nxt:Nat} {args:List D}:zf cfg S objs nxt 29 args=z8 S objs nxt 29 args:=ck cfn29 rfl
theorem lck30 {S:Sm} {objs:List (Nat × Ob)} {nxt:Nat} {args:List D}:zf cfg S objs nxt 30 args=z8 S objs nxt 30 args:=ck cfn30 rfl
theorem lck31 {S:Sm} {objs:List (Nat × Ob)} {nxt:Nat} {args:List D}:zf cfg S objs nxt 31 args=z8 S objs nxt 31 args:=ck cfn31 rfl
theorem lck32 {S:Sm} {objs:List (Nat × Ob)} {nxt:Nat} {args:List D}:zf cfg S objs nxt 32 args=z8 S objs nxt 32 args:=ck cfn32 rfl
theorem lck33 {S:Sm} {objs:List (Nat × Ob)} {nxt:Nat} {args:List D}:zf cfg S objs nxt 33 args=z8 S objs nxt 33 args:=ck cfn33 rfl
theorem lck34 {S:Sm} {objs:List (Nat × Ob)} {nxt:Nat} {args:List D}:zf cfg S objs nxt 34 args=z8 S objs nxt 34 args:=ck cfn34 rfl
theorem lck35 {S:Sm} {objs:List (Nat × Ob)} {nxt:Nat} {args:List D}:zf cfg S objs nxt 35 args=z8 S objs nxt 35 args:=ck cfn35 rfl
theorem lck37 {S:Sm} {objs:List (Nat × Ob)} {nxt:Nat} {args:List D}:zf cfg S objs nxt 37 args=z8 S objs nxt 37 args:=ck cfn37 rfl
theorem lck39 {S:Sm} {objs:List (Nat × Ob)} {nxt:Nat} {args:List D}:zf cfg S objs nxt 39 args=z8 S objs nxt 39 args:=ck cfn39 rfl
theorem lck40 {S:Sm} {objs:List (Nat × Ob)} {nxt:Nat} {args:List D}:zf cfg S objs nxt 40 args=z8 S objs nxt 40 args:=ck cfn40 rfl
theorem lck41 {S:Sm} {objs:List (Nat × Ob)} {nxt:Nat} {args:List D}:zf cfg S objs nxt 41 args=z8 S objs nxt 41 args:=ck cfn41 rfl
theorem lck42 {S:Sm} {objs:List (Nat × Ob)} {nxt:Nat} {args:List D}:zf cfg S objs nxt 42 args=z8 S objs nxt 42 args:=ck cfn42 rfl
theorem lck45 {S:Sm} {objs:List (Nat × Ob)} {nxt:Nat} {args:List D}:zf cfg S objs nxt 45 args=z8 S objs nxt 45 args:=ck cfn45 rfl
theorem lck46 {S:Sm} {objs:List (Nat × Ob)} {nxt:Nat} {args:List D}:zf cfg S objs nxt 46 args=z8 S objs nxt 46 args:=ck cfn46 rfl
theorem lck47 {S:Sm} {objs:List (Nat × Ob)} {nxt:Nat} {args:List D}:zf cfg S objs nxt 47 args=z8 S objs nxt 47 args:=ck cfn47 rfl
theorem lck48 {S:Sm} {objs:List (Nat × Ob)} {nxt:Nat} {args:List D}:zf cfg S objs nxt 48 args=z8 S objs nxt 48 args:=ck cfn48 rfl
theorem lck49 {S:Sm} {objs:List (Nat × Ob)} {nxt:Nat} {args:List D}:zf cfg S objs nxt 49 args=z8 S objs nxt 49 args:=ck cfn49 rfl
theorem lck50 {S:Sm} {objs:List (Nat × Ob)} {nxt:Nat} {args:List D}:zf cfg S objs nxt 50 args=z8 S objs nxt 50 args:=ck cfn50 rfl
theorem lck51 {S:Sm} {objs:List (Nat × Ob)} {nxt:Nat} {args:List D}:zf cfg S objs nxt 51 args=z8 S objs nxt 51 args:=ck cfn51 rfl
theorem lck52 {S:Sm} {objs:List (Nat × Ob)} {nxt:Nat} {args:List D}:zf cfg S objs nxt 52 args=z8 S objs nxt 52 args:=ck cfn52 rfl
theorem lck53 {S:Sm} {objs:List (Nat × Ob)} {nxt:Nat} {args:List D}:zf cfg S objs nxt 53 args=z8 S objs nxt 53 args:=ck cfn53 rfl
theorem lck54 {S:Sm} {objs:List (Nat × Ob)} {nxt:Nat} {args:List D}:zf cfg S objs nxt 54 args=z8 S objs nxt 54 args:=ck cfn54 rfl
theorem lck55 {S:Sm} {objs:List (Nat × Ob)} {nxt:Nat} {args:List D}:zf cfg S objs nxt 55 args=z8 S objs nxt 55 args:=ck cfn55 rfl
theorem lck56 {S:Sm} {objs:List (Nat × Ob)} {nxt:Nat} {args:List D}:zf cfg S objs nxt 56 args=z8 S objs nxt 56 args:=ck cfn56 rfl
theorem lck57 {S:Sm} {objs:List (Nat × Ob)} {nxt:Nat} {args:List D}:zf cfg S objs nxt 57 args=z8 S objs nxt 57 args:=ck cfn57 rfl
theorem lck58 {S:Sm} {objs:List (Nat × Ob)} {nxt:Nat} {args:List D}:zf cfg S objs nxt 58 args=z8 S objs nxt 58 args:=ck cfn58 rfl
theorem lck59 {S:Sm} {objs:List (Nat × Ob)} {nxt:Nat} {args:List D}:zf cfg S objs nxt 59 args=z8 S objs nxt 59 args:=ck cfn59 rfl
theorem lck65 {S:Sm} {objs:List (Nat × Ob)} {nxt:Nat} {args:List D}:zf cfg S objs nxt 65 args=z8 S objs nxt 65 args:=ck cfn65 rfl
theorem lck66 {S:Sm} {objs:List (Nat × Ob)} {nxt:Nat} {args:List D}:zf cfg S objs nxt 66 args=z8 S objs nxt 66 args:=ck cfn66 rfl
theorem lck67 {S:Sm} {objs:List (Nat × Ob)} {nxt:Nat} {args:List D}:zf cfg S objs nxt 67 args=z8 S objs nxt 67 args:=ck cfn67 rfl
theorem lck68 {S:Sm} {objs:List (Nat × Ob)} {nxt:Nat} {args:List D}:zf cfg S objs nxt 68 args=z8 S objs nxt 68 args:=ck cfn68 rfl
theorem lck71 {S:Sm} {objs:List (Nat × Ob)} {nxt:Nat} {args:List D}:zf cfg S objs nxt 71 args=z8 S objs nxt 71 args:=ck cfn71 rfl
theorem lck73 {S:Sm} {objs:List (Nat × Ob)} {nxt:Nat} {args:List D}:zf cfg S objs nxt 73 args=z8 S objs nxt 73 args:=ck cfn73 rfl
theorem lck74 {S:Sm} {objs:List (Nat × Ob)} {nxt:Nat} {args:List D}:zf cfg S objs nxt 74 args=z8 S objs nxt 74 args:=ck cfn74 rfl
theorem lck75 {S:Sm} {objs:List (Nat × Ob)} {nxt:Nat} {args:List D}:zf cfg S objs nxt 75 args=z8 S objs nxt 75 args:=ck cfn75 rfl
theorem lck76 {S:Sm} {objs:List (Nat × Ob)} {nxt:Nat} {args:List D}:zf cfg S objs nxt 76 args=z8 S objs nxt 76 args:=ck cfn76 rfl
theorem lck77 {S:Sm} {objs:List (Nat × Ob)} {nxt:Nat} {args:List D}:zf cfg S objs nxt 77 args=z8 S objs nxt 77 args:=ck cfn77 rfl
theorem lck78 {S:Sm} {objs:List (Nat × Ob)} {nxt:Nat} {args:List D}:zf cfg S objs nxt 78 args=z8 S objs nxt 78 args:=ck cfn78 rfl
theorem lck79 {S:Sm} {objs:List (Nat × Ob)} {nxt:Nat} {args:List D}:zf cfg S objs nxt 79 args=z8 S objs nxt 79 args:=ck cfn79 rfl
theorem lck80 {S:Sm} {objs:List (Nat × Ob)} {nxt:Nat} {args:List D}:zf cfg S objs nxt 80 args=z8 S objs nxt 80 args:=ck cfn80 rfl
theorem lck81 {S:Sm} {objs:List (Nat × Ob)} {nxt:Nat} {args:List D}:zf cfg S objs nxt 81 args=z8 S objs nxt 81 args:=ck cfn81 rfl
theorem lck83 {S:Sm} {objs:List (Nat × Ob)} {nxt:Nat} {args:List D}:zf cfg S objs nxt 83 args=z8 S objs nxt 83 args:=ck cfn83 rfl
theorem lck84 {S:Sm} {objs:List (Nat × Ob)} {nxt:Nat} {args:List D}:zf cfg S objs nxt 84 args=z8 S objs nxt 84 args:=ck cfn84 rfl
theorem lck85 {S:Sm} {objs:List (Nat × Ob)} {nxt:Nat} {args:List D}:zf cfg S objs nxt 85 args=z8 S objs nxt 85 args:=ck cfn85 rfl
theorem lck86 {S:Sm} {objs:List (Nat × Ob)} {nxt:Nat} {args:List D}:zf cfg S objs nxt 86 args=z8 S objs nxt 86 args:=ck cfn86 rfl
theorem lck88 {S:Sm} {objs:List (Nat × Ob)} {nxt:Nat} {args:List D}:zf cfg S objs nxt 88 args=z8 S objs nxt 88 args:=ck cfn88 rfl
theorem lck89 {S:Sm} {objs:List (Nat × Ob)} {nxt:Nat} {args:List D}:zf cfg S objs nxt 89 args=z8 S objs nxt 89 args:=ck cfn89 rfl
theorem lck90 {S:Sm} {objs:List (Nat × Ob)} {nxt:Nat} {args:List D}:zf cfg S objs nxt 90 args=z8 S objs nxt 90 args:=ck cfn90 rfl
theorem lck91 {S:Sm} {objs:List (Nat × Ob)} {nxt:Nat} {args:List D}:zf cfg S objs nxt 91 args=z8 S objs nxt 91 args:=ck cfn91 rfl
theorem lck92 {S:Sm} {objs:List (Nat × Ob)} {nxt:Nat} {args:List D}:zf cfg S objs nxt 92 args=z8 S objs nxt 92 args:=ck cfn92 rfl
theorem lck93 {S:Sm} {objs:List (Nat × Ob)} {nxt:Nat} {args:List D}:zf cfg S objs nxt 93 args=z8 S objs nxt 93 args:=ck cfn93 rfl
theorem lck94 {S:Sm} {objs:List (Nat × Ob)} {nxt:Nat} {args:List D}:zf cfg S objs nxt 94 args=z8 S objs nxt 94 args:=ck cfn94 rfl
theorem lck95 {S:Sm} {objs:List (Nat × Ob)} {nxt:Nat} {args:List D}:zf cfg S objs nxt 95 args=z8 S objs nxt 95 args:=ck cfn95 rfl
theorem lck97 {S:Sm} {objs:List (Nat × Ob)} {nxt:Nat} {args:List D}:zf cfg S objs nxt 97 args=z8 S objs nxt 97 args:=ck cfn97 rfl
theorem lck98 {S:Sm} {objs:List (Nat × Ob)} {nxt:Nat} {args:List D}:zf cfg S objs nxt 98 args=z8 S objs nxt 98 args:=ck cfn98 rfl
theorem lck99 {S:Sm} {objs:List (Nat × Ob)} {nxt:Nat} {args:List D}:zf cfg S objs nxt 99 args=z8 S objs nxt 99 args:=ck cfn99 rfl
theorem lck100 {S:Sm} {objs:List (Nat × Ob)} {nxt:Nat} {args:List D}:zf cfg S objs nxt 100 args=z8 S objs nxt 100 args:=ck cfn100 rfl
theorem lck101 {S:Sm} {objs:List (Nat × Ob)} {nxt:Nat} {args:List D}:zf cfg S objs nxt 101 args=z8 S objs nxt 101 args:=ck cfn101 rfl
theorem lck102 {S:Sm} {objs:List (Nat × Ob)} {nxt:Nat} {args:List D}:zf cfg S objs nxt 102 args=z8 S objs nxt 102 args:=ck cfn102 rfl
theorem lck104 {S:Sm} {objs:List (Nat × Ob)} {nxt:Nat} {args:List D}:zf cfg S objs nxt 104 args=z8 S objs nxt 104 args:=ck cfn104 rfl
theorem lck105 {S:Sm} {objs:List (Nat × Ob)} {nxt:Nat} {args:List D}:zf cfg S objs nxt 105 args=z8 S objs nxt 105 args:=ck cfn105 rfl
theorem lck106 {S:Sm} {objs:List (Nat × Ob)} {nxt:Nat} {args:List D}:zf cfg S objs nxt 106 args=z8 S objs nxt 106 args:=ck cfn106 rfl
theorem lck107 {S:Sm} {objs:List (Nat × Ob)} {nxt:Nat} {args:List D}:zf cfg S objs nxt 107 args=z8 S objs nxt 107 args:=ck cfn107 rfl
theorem lck109 {S:Sm} {objs:List (Nat × Ob)} {nxt:Nat} {args:List D}:zf cfg S objs nxt 109 args=z8 S objs nxt 109 args:=ck cfn109 rfl
theorem lck113 {S:Sm} {objs:List (Nat × Ob)} {nxt:Nat} {args:List D}:zf cfg S objs nxt 113 args=z8 S objs nxt 113 args:=ck cfn113 rfl
theorem lck114 {S:Sm} {objs:List (Nat × Ob)} {nxt:Nat} {args:List D}:zf cfg S objs nxt 114 args=z8 S objs nxt 114 args:=ck cfn114 rfl
theorem lck115 {S:Sm} {objs:List (Nat × Ob)} {nxt:Nat} {args:List D}:zf cfg S objs nxt 115 args=z8 S objs nxt 115 args:=ck cfn115 rfl
theorem lck116 {S:Sm} {objs:List (Nat × Ob)} {nxt:Nat} {args:List D}:zf cfg S objs nxt 116 args=z8 S objs nxt 116 args:=ck cfn116 rfl
theorem lck118 {S:Sm} {objs:List (Nat × Ob)} {nxt:Nat} {args:List D}:zf cfg S objs nxt 118 args=z8 S objs nxt 118 args:=ck cfn118 rfl
theorem lck119 {S:Sm} {objs:List (Nat × Ob)} {nxt:Nat} {args:List D}:zf cfg S objs nxt 119 args=z8 S objs nxt 119 args:=ck cfn119 rfl
theorem lck120 {S:Sm} {objs:List (Nat × Ob)} {nxt:Nat} {args:List D}:zf cfg S objs nxt 120 args=z8 S objs nxt 120 args:=ck cfn120 rfl
theorem lck123 {S:Sm} {objs:List (Nat × Ob)} {nxt:Nat} {args:List D}:zf cfg S objs nxt 123 args=z8 S objs nxt 123 args:=ck cfn123 rfl
theorem lck124 {S:Sm} {objs:List (Nat × Ob)} {nxt:Nat} {args:List D}:zf cfg S objs nxt 124 args=z8 S objs nxt 124 args:=ck cfn124 rfl
theorem lck125 {S:Sm} {objs:List (Nat × Ob)} {nxt:Nat} {args:List D}:zf cfg S objs nxt 125 args=z8 S objs nxt 125 args:=ck cfn125 rfl
theorem lck126 {S:Sm} {objs:List (Nat × Ob)} {nxt:Nat} {args:List D}:zf cfg S objs nxt 126 args=z8 S objs nxt 126 args:=ck cfn126 rfl
theorem lck127 {S:Sm} {objs:List (Nat × Ob)} {nxt:Nat} {args:List D}:zf cfg S objs nxt 127 args=z8 S objs nxt 127 args:=ck cfn127 rfl
theorem lck128 {S:Sm} {objs:List (Nat × Ob)} {nxt:Nat} {args:List D}:zf cfg S objs nxt 128 args=z8 S objs nxt 128 args:=ck cfn128 rfl
theorem lck129 {S:Sm} {objs:List (Nat × Ob)} {nxt:Nat} {args:List D}:zf cfg S objs nxt 129 args=z8 S objs nxt 129 args:=ck cfn129 rfl
theorem lck130 {S:Sm} {objs:List (Nat × Ob)} {nxt:Nat} {args:List D}:zf cfg S objs nxt 130 args=z8 S objs nxt 130 args:=ck cfn130 rfl
theorem lck131 {S:Sm} {objs:List (Nat × Ob)} {nxt:Nat} {args:List D}:zf cfg S objs nxt 131 args=z8 S objs nxt 131 args:=ck cfn131 rfl
theorem lck140 {S:Sm} {objs:List (Nat × Ob)} {nxt:Nat} {args:List D}:zf cfg S objs nxt 140 args=z8 S objs nxt 140 args:=ck cfn140 rfl
theorem lck141 {S:Sm} {objs:List (Nat × Ob)} {nxt:Nat} {args:List D}:zf cfg S objs nxt 141 args=z8 S objs nxt 141 args:=ck cfn141 rfl
theorem lck142 {S:Sm} {objs:List (Nat × Ob)} {nxt:Nat} {args:List D}:zf cfg S objs nxt 142 args=z8 S objs nxt 142 args:=ck cfn142 rfl
theorem lck143 {S:Sm} {objs:List (Nat × Ob)} {nxt:Nat} {args:List D}:zf cfg S objs nxt 143 args=z8 S objs nxt 143 args:=ck cfn143 rfl
theorem lck148 {S:Sm} {objs:List (Nat × Ob)} {nxt:Nat} {args:List D}:zf cfg S objs nxt 148 args=z8 S objs nxt 148 args:=ck cfn148 rfl
theorem lck149 {S:Sm} {objs:List (Nat × Ob)} {nxt:Nat} {args:List D}:zf cfg S objs nxt 149 args=z8 S objs nxt 149 args:=ck cfn149 rfl
theorem lck151 {S:Sm} {objs:List (Nat × Ob)} {nxt:Nat} {args:List D}:zf cfg S objs nxt 151 args=z8 S objs nxt 151 args:=ck cfn151 rfl
theorem lck153 {S:Sm} {objs:List (Nat × Ob)} {nxt:Nat} {args:List D}:zf cfg S objs nxt 153 args=z8 S objs nxt 153 args:=ck cfn153 rfl
theorem lck154 {S:Sm} {objs:List (Nat × Ob)} {nxt:Nat} {args:List D}:zf cfg S objs nxt 154 args=z8 S objs nxt 154 args:=ck cfn154 rfl
theorem lck155 {S:Sm} {objs:List (Nat × Ob)} {nxt:Nat} {args:List D}:zf cfg S objs nxt 155 args=z8 S objs nxt 155 args:=ck cfn155 rfl
theorem lck156 {S:Sm} {objs:List (Nat × Ob)} {nxt:Nat} {args:List D}:zf cfg S objs nxt 156 args=z8 S objs nxt 156 args:=ck cfn156 rfl
theorem lck157 {S:Sm} {objs:List (Nat × Ob)} {nxt:Nat} {args:List D}:zf cfg S objs nxt 157 args=z8 S objs nxt 157 args:=ck cfn157 rfl
theorem lck159 {S:Sm} {objs:List (Nat × Ob)} {nxt:Nat} {args:List D}:zf cfg S objs nxt 159 args=z8 S objs nxt 159 args:=ck cfn159 rfl
theorem lck163 {S:Sm} {objs:List (Nat × Ob)} {nxt:Nat} {args:List D}:zf cfg S objs nxt 163 args=z8 S objs nxt 163 args:=ck cfn163 rfl
theorem lck164 {S:Sm} {objs:List (Nat × Ob)} {nxt:Nat} {args:List D}:zf cfg S objs nxt 164 args=z8 S objs nxt 164 args:=ck cfn164 rfl
theorem lck165 {S:Sm} {objs:List (Nat × Ob)} {nxt:Nat} {args:List D}:zf cfg S objs nxt 165 args=z8 S objs nxt 165 args:=ck cfn165 rfl
theorem lck166 {S:Sm} {objs:List (Nat × Ob)} {nxt:Nat} {args:List D}:zf cfg S objs nxt 166 args=z8 S objs nxt 166 args:=ck cfn166 rfl
theorem lck167 {S:Sm} {objs:List (Nat × Ob)} {nxt:Nat} {args:List D}:zf cfg S objs nxt 167 args=z8 S objs nxt 167 args:=ck cfn167 rfl
theorem lck169 {S:Sm} {objs:List (Nat × Ob)} {nxt:Nat} {args:List D}:zf cfg S objs nxt 169 args=z8 S objs nxt 169 args:=ck cfn169 rfl
theorem lck170 {S:Sm} {objs:List (Nat × Ob)} {nxt:Nat} {args:List D}:zf cfg S objs nxt 170 args=z8 S objs nxt 170 args:=ck cfn170 rfl
theorem lck171 {S:Sm} {objs:List (Nat × Ob)} {nxt:Nat} {args:List D}:zf cfg S objs nxt 171 args=z8 S objs nxt 171 args:=ck cfn171 rfl
theorem lck173 {S:Sm} {objs:List (Nat × Ob)} {nxt:Nat} {args:List D}:zf cfg S objs nxt 173 args=z8 S objs nxt 173 args:=ck cfn173 rfl
theorem lck174 {S:Sm} {objs:List (Nat × Ob)} {nxt:Nat} {args:List D}:zf cfg S objs nxt 174 args=z8 S objs nxt 174 args:=ck cfn174 rfl
theorem lck204 {S:Sm} {objs:List (Nat × Ob)} {nxt:Nat} {args:List D}:zf cfg S objs nxt 204 args=z8 S objs nxt 204 args:=ck cfn204 rfl
set_option linter.defProp false
def cks:=(Ai (Ai (Ai (Ai (Ai (Ai (Ai @lck2 @lck3) (Ai @lck4 @lck5)) (Ai (Ai @lck6 @lck7) (Ai @lck8 @lck9))) (Ai (Ai (Ai @lck10 @lck11) (Ai @lck12 @lck13)) (Ai (Ai @lck14 @lck15) (Ai @lck16 @lck17)))) (Ai (Ai (Ai (Ai @lck18 @lck19) (Ai @lck20 @lck21)) (Ai (Ai @lck22 @lck23) (Ai @lck24 @lck25))) (Ai (Ai (Ai @lck26 @lck27) (Ai @lck28 @lck29)) (Ai (Ai @lck30 @lck31) (Ai @lck32 @lck33))))) (Ai (Ai (Ai (Ai (Ai @lck34 @lck35) (Ai @lck37 @lck39)) (Ai (Ai @lck40 @lck41) (Ai @lck42 @lck45))) (Ai (Ai (Ai @lck46 @lck47) (Ai @lck48 @lck49)) (Ai (Ai @lck50 @lck51) (Ai @lck52 @lck53)))) (Ai (Ai (Ai (Ai @lck54 @lck55) (Ai @lck56 @lck57)) (Ai (Ai @lck58 @lck59) (Ai @lck65 @lck66))) (Ai (Ai (Ai @lck67 @lck68) (Ai @lck71 @lck73)) (Ai (Ai @lck74 @lck75) (Ai @lck76 (Ai @lck77 @lck78))))))) (Ai (Ai (Ai (Ai (Ai (Ai @lck79 @lck80) (Ai @lck81 @lck83)) (Ai (Ai @lck84 @lck85) (Ai @lck86 @lck88))) (Ai (Ai (Ai @lck89 @lck90) (Ai @lck91 @lck92)) (Ai (Ai @lck93 @lck94) (Ai @lck95 @lck97)))) (Ai (Ai (Ai (Ai @lck98 @lck99) (Ai @lck100 @lck101)) (Ai (Ai @lck102 @lck104) (Ai @lck105 @lck106))) (Ai (Ai (Ai @lck107 @lck109) (Ai @lck113 @lck114)) (Ai (Ai @lck115 @lck116) (Ai @lck118 (Ai @lck119 @lck120)))))) (Ai (Ai (Ai (Ai (Ai @lck123 @lck124) (Ai @lck125 @lck126)) (Ai (Ai @lck127 @lck128) (Ai @lck129 @lck130))) (Ai (Ai (Ai @lck131 @lck140) (Ai @lck141 @lck142)) (Ai (Ai @lck143 @lck148) (Ai @lck149 @lck151)))) (Ai (Ai (Ai (Ai @lck153 @lck154) (Ai @lck155 @lck156)) (Ai (Ai @lck157 @lck159) (Ai @lck163 @lck164))) (Ai (Ai (Ai @lck165 @lck166) (Ai @lck167 @lck169)) (Ai (Ai @lck170 @lck171) (Ai @lck173 (Ai @lck174 @lck204))))))))
attribute [go_sem] tys cks cfg_ty cfg_eqok zs_false
theorem extOK:ExtOK cfg where
 pure:=fun K g args d h=>by cases h
 inl:=fun K g args objs nxt d objs' nxt' h=>by cases h
end Go.VS.F0

namespace Go.VS
open Go
section
variable {α:Type} {f:α→VS.D} {te:Ty} {gO:Nat→Option Ob} {nxt o o2 sz:Nat} {fz:Bool}
theorem map_emp {l:List α} (h:l.isEmpty=false):(l.map f).isEmpty=false:=by cases l with|nil=>cases h|cons a b=>rfl
theorem emp_pos {l:List α} (h:l.isEmpty=false):0 < l.length:=by cases l with|nil=>cases h|cons a b=>simp
theorem elems_deep (s:GS α) (he:s.l.isEmpty=false):elemsD gO (GS.D f sz s)=Option.some (s.l.map f,sz,[]):=by
 have hn:s.nl=false:=nonnil (ne_of_empty he)
 unfold GS.D
 rw [hn]
 simp [elemsD,zsl]
theorem app_new {x:VS.D} {rx:List Nat} {l:List α} {els0:List VS.D} {sz0:Nat} {cap0:Option Nat} (EO:EncOK sz f) (hx:elemsD gO x=Option.some (l.map f,sz,rx)) (he:l.isEmpty=false) (h3:te.size=sz) (h4:zeroOk te=true) (h5:0 < te.size) (hb:l.length * te.bytes≤big∧l.length≤big) :
  appendE te gO nxt (.sl true els0 sz0 cap0) x=Option.some ⟨.lsl nxt 0 l.length sz none,[(nxt,Option.some ⟨l.map f,sz,false⟩)],rx,nxt+1⟩:=by
 have e3:allOk sz (List.map f l)=true:=EO.allOk l
 have h5':0 < sz:=h3 ▸ h5
 have hemp:=map_emp (f:=f) he
 simp [appendE,hx,hemp,h3,e3,h4,h5',appSl,newRow,hb.1,hb.2,newOb]
theorem app_more {x:VS.D} {rx:List Nat} {v l:List α} (EO:EncOK sz f) (hx:elemsD gO x=Option.some (l.map f,sz,rx)) (he:l.isEmpty=false) (h1:gO o=Option.some ⟨v.map f,sz,false⟩) (h3:te.size=sz) (h4:zeroOk te=true) (h5:0 < te.size)
  (hb:(v.length+l.length) * te.bytes≤big∧v.length+l.length≤big) :
  appendE te gO nxt (.lsl o 0 v.length sz none) x=Option.some ⟨.lsl nxt 0 (v++l).length sz none,[(o,none),(nxt,Option.some ⟨(v++l).map f,sz,false⟩)],o::rx,nxt+1⟩:=by
 have e3:allOk sz (List.map f l)=true:=EO.allOk l
 have e5:allOk sz (List.map f v)=true:=EO.allOk v
 have h5':0 < sz:=h3 ▸ h5
 have hemp:=map_emp (f:=f) he
 have hpos:=emp_pos he
 have e4:List.take v.length (List.map f v)=List.map f v:=by rw [List.take_of_length_le];simp
 have e6:¬v.length+l.length≤v.length:=by omega
 simp [appendE,hx,hemp,h3,e3,h4,h5',h1,appLsl,hb.1,hb.2,e4,e5,e6]
theorem app_newD {els0:List VS.D} {sz0:Nat} {cap0:Option Nat} (EO:EncOK sz f) (s:GS α) (he:s.l.isEmpty=false) (h3:te.size=sz) (h4:zeroOk te=true) (h5:0 < te.size) (hb:s.l.length * te.bytes≤big∧s.l.length≤big) :
  appendE te gO nxt (.sl true els0 sz0 cap0) (GS.D f sz s)=Option.some ⟨.lsl nxt 0 s.l.length sz none,[(nxt,Option.some ⟨s.l.map f,sz,false⟩)],[],nxt+1⟩:=app_new EO (elems_deep s he) he h3 h4 h5 hb
theorem app_moreD {v:List α} (EO:EncOK sz f) (s:GS α) (he:s.l.isEmpty=false) (h1:gO o=Option.some ⟨v.map f,sz,false⟩) (h3:te.size=sz) (h4:zeroOk te=true) (h5:0 < te.size) (hb:(v.length+s.l.length) * te.bytes≤big∧v.length+s.l.length≤big) :
  appendE te gO nxt (.lsl o 0 v.length sz none) (GS.D f sz s)=Option.some ⟨.lsl nxt 0 (v++s.l).length sz none,[(o,none),(nxt,Option.some ⟨(v++s.l).map f,sz,false⟩)],[o],nxt+1⟩:=app_more EO (elems_deep s he) he h1 h3 h4 h5 hb
theorem app_in {x:VS.D} {rx:List Nat} {v l:List α} {n:Nat} (EO:EncOK sz f) (hx:elemsD gO x=Option.some (l.map f,sz,rx)) (he:l.isEmpty=false) (h1:gO o=Option.some ⟨v.map f,sz,false⟩) (h3:te.size=sz) (h4:zeroOk te=true) (h5:0 < te.size)
  (hn:n+l.length≤v.length) (hb:(n+l.length) * te.bytes≤big∧n+l.length≤big) :
  appendE te gO nxt (.lsl o 0 n sz none) x=Option.some ⟨.lsl o 0 (n+l.length) sz none,[(o,Option.some ⟨(v.take n++l++v.drop (n+l.length)).map f,sz,false⟩)],o::rx,nxt⟩:=by
 have e3:allOk sz (List.map f l)=true:=EO.allOk l
 have h5':0 < sz:=h3 ▸ h5
 have hemp:=map_emp (f:=f) he
 have hn':n≤v.length:=by omega
 simp [appendE,hx,hemp,h3,e3,h4,h5',h1,appLsl,hb.1,hb.2,hn,hn',List.map_take,List.map_drop]
theorem app_fill {x:VS.D} {rx:List Nat} {v l:List α} {z:α} {n:Nat} (EO:EncOK sz f) (hx:elemsD gO x=Option.some (l.map f,sz,rx)) (he:l.isEmpty=false) (h1:gO o=Option.some ⟨(v++List.replicate n z).map f,sz,false⟩) (h3:te.size=sz) (h4:zeroOk te=true) (h5:0 < te.size)
  (hn:l.length≤n) (hb:(v.length+l.length) * te.bytes≤big∧v.length+l.length≤big) :
  appendE te gO nxt (.lsl o 0 v.length sz none) x=Option.some ⟨.lsl o 0 (v++l).length sz none,[(o,Option.some ⟨(v++l++List.replicate (n - l.length) z).map f,sz,false⟩)],o::rx,nxt⟩:=by
 have h:=app_in (nxt:=nxt) EO hx he h1 h3 h4 h5 (n:=v.length) (by simp;exact hn) hb
 rw [h]
 have e1:(v++List.replicate n z).drop (v.length+l.length)=List.replicate (n - l.length) z:=by
  rw [List.drop_append];simp
 rw [e1];simp
theorem app_fillD {v:List α} {z:α} {n:Nat} (EO:EncOK sz f) (s:GS α) (he:s.l.isEmpty=false) (h1:gO o=Option.some ⟨(v++List.replicate n z).map f,sz,false⟩) (h3:te.size=sz) (h4:zeroOk te=true) (h5:0 < te.size)
  (hn:s.l.length≤n) (hb:(v.length+s.l.length) * te.bytes≤big∧v.length+s.l.length≤big) :
  appendE te gO nxt (.lsl o 0 v.length sz none) (GS.D f sz s)=Option.some ⟨.lsl o 0 (v++s.l).length sz none,[(o,Option.some ⟨(v++s.l++List.replicate (n - s.l.length) z).map f,sz,false⟩)],[o],nxt⟩:=app_fill EO (elems_deep s he) he h1 h3 h4 h5 hn hb
theorem app_fullD {v:List α} {z:α} {n:Nat} (EO:EncOK sz f) (s:GS α) (he:s.l.isEmpty=false) (h1:gO o=Option.some ⟨(v++List.replicate n z).map f,sz,false⟩) (h3:te.size=sz) (h4:zeroOk te=true) (h5:0 < te.size)
  (hn:s.l.length=n) (hb:(v.length+s.l.length) * te.bytes≤big∧v.length+s.l.length≤big) :
  appendE te gO nxt (.lsl o 0 v.length sz none) (GS.D f sz s)=Option.some ⟨.lsl o 0 (v++s.l).length sz none,[(o,Option.some ⟨(v++s.l).map f,sz,false⟩)],[o],nxt⟩:=by
 have h:=app_fillD (nxt:=nxt) EO s he h1 h3 h4 h5 (Nat.le_of_eq hn) hb
 rw [h,hn,Nat.sub_self];simp
theorem app_zero {C:Cfg} {t t':TypeId} {ty':Ty} {k k':IntKind} {n:Int} {els0:List VS.D} {sz0:Nat} {cap0:Option Nat} (z:α) (h1:sliceElem C t=Option.some te) (h2:sliceElem C t'=none) (h3:C.ty t'=Option.some ty') (h4:ty'.kind=.int k') (hz:zeroD te=f z) (h5:zeroOk te=true) (h6:0 < te.size) (h7:te.size=sz)
  (hn:0 < n) (hb:n.toNat * te.bytes≤big∧n.toNat≤big) :
  appendD C gO nxt #[t,t'] (.sl true els0 sz0 cap0) (.val (.int k n))=Option.some ⟨.lsl nxt 0 n.toNat sz none,[(nxt,Option.some ⟨(List.replicate n.toNat z).map f,sz,false⟩)],[],nxt+1⟩:=by
 subst h7
 simp [appendD,h1,h2,appendZ,h3,h4,zLen,hn,h5,h6,newRow,hb.1,hb.2,newOb,List.map_replicate,hz]
theorem cut_zero {C:Cfg} {objs:List (Nat × Ob)} {t e:TypeId} {ty:Ty} {len:Nat} (h1:C.ty t=Option.some ty) (h2:ty.kind=.slice e) (h3:C.ty e=Option.some te) (h4:te.size=sz) (h5:0 < len) :
  evSlice C objs nxt t (.lsl o 0 len sz none) none (Option.some (I 0)) none=Option.some ⟨.lsl o 0 0 sz none,[],[o],nxt⟩:=by
 subst h4
 simp [evSlice,optBound,boundD,I,sliceOf,h1,h2,h3,lslSlice,reaches,h5,rdOf]
end
end Go.VS

namespace Go.VS.F0
open Go Go.Proofs
def cmp_isNaN (a0:Int):Bool :=
 bif (a0 != a0) then
  true
 else
  false

theorem T_cmp_isNaN (a0:Int):(lim cfg).pure 119 [I a0]=some (B (cmp_isNaN a0)):=by
 unfold cmp_isNaN
 cases h1:(a0 != a0) with
 |true =>
  have g1:=bne_true h1
  exact zp [.dec true] (Ai h1 trivial) (by kernel_rfl)
 |false =>
  have g1:=bne_false h1
  exact zp [.dec false] (Ai h1 trivial) (by kernel_rfl)

def cmp_Compare (x:Int) (y:Int):Int :=
 bif (cmp_isNaN x) then
  bif (cmp_isNaN y) then
   0
  else
   (-1)
 else
  bif (cmp_isNaN y) then
   1
  else
   bif decide (x < y) then
    (-1)
   else
    bif decide (x>y) then
     1
    else
     0

theorem T_cmp_Compare (x:Int) (y:Int):(lim cfg).pure 105 [I x,I y]=some (I (cmp_Compare x y)):=by
 unfold cmp_Compare
 cases h1:(cmp_isNaN x) with
 |true =>
  cases h2:(cmp_isNaN y) with
  |true =>
   exact zp [.pure (B (cmp_isNaN x)),.dec true,.pure (B (cmp_isNaN y)),.dec true] (Ai h2 (Ai (T_cmp_isNaN y) (Ai h1 (Ai (T_cmp_isNaN x) trivial)))) (by kernel_rfl)
  |false =>
   exact zp [.pure (B (cmp_isNaN x)),.dec true,.pure (B (cmp_isNaN y)),.dec false] (Ai h2 (Ai (T_cmp_isNaN y) (Ai h1 (Ai (T_cmp_isNaN x) trivial)))) (by kernel_rfl)
 |false =>
  cases h3:(cmp_isNaN y) with
  |true =>
   exact zp [.pure (B (cmp_isNaN x)),.dec false,.pure (B (cmp_isNaN y)),.dec true] (Ai h3 (Ai (T_cmp_isNaN y) (Ai h1 (Ai (T_cmp_isNaN x) trivial)))) (by kernel_rfl)
  |false =>
   cases h4:decide (x < y) with
   |true =>
    have g4:=of_decide_eq_true h4
    exact zp [.pure (B (cmp_isNaN x)),.dec false,.pure (B (cmp_isNaN y)),.dec false,.dec true] (Ai h4 (Ai h3 (Ai (T_cmp_isNaN y) (Ai h1 (Ai (T_cmp_isNaN x) trivial))))) (by kernel_rfl)
   |false =>
    have g4:=of_decide_eq_false h4
    cases h5:decide (x>y) with
    |true =>
     have g5:=of_decide_eq_true h5
     exact zp [.pure (B (cmp_isNaN x)),.dec false,.pure (B (cmp_isNaN y)),.dec false,.dec false,.dec true] (Ai h5 (Ai h4 (Ai h3 (Ai (T_cmp_isNaN y) (Ai h1 (Ai (T_cmp_isNaN x) trivial)))))) (by kernel_rfl)
    |false =>
     have g5:=of_decide_eq_false h5
     exact zp [.pure (B (cmp_isNaN x)),.dec false,.pure (B (cmp_isNaN y)),.dec false,.dec false,.dec false] (Ai h5 (Ai h4 (Ai h3 (Ai (T_cmp_isNaN y) (Ai h1 (Ai (T_cmp_isNaN x) trivial)))))) (by kernel_rfl)

def ranges_gathered_1 (x:Sn) (y:Sn):Int :=
 (cmp_Compare x.lo y.lo)

theorem T_ranges_gathered_1 (x:Sn) (y:Sn):(lim cfg).pure 104 [Sn.D x,Sn.D y]=some (I (ranges_gathered_1 x y)):=by
 unfold ranges_gathered_1
 exact zp [.pure (I (cmp_Compare x.lo y.lo))] (Ai (T_cmp_Compare x.lo y.lo) trivial) (by kernel_rfl)
end Go.VS.F0

namespace Go.Proofs
open Go.Shelf
def Tryz.lays156_ren:Go.Shelf.Ren:=⟨fun|156=>99|165=>110|166=>111|169=>112|240=>121|241=>122|276=>146|277=>147|n=>n,fun|31=>91|9=>9|3=>3|4=>4|0=>0|20=>20|72=>111|76=>99|70=>108|37=>109|75=>98|127=>120|164=>145|5=>5|80=>113|n=>n,fun|n=>n⟩
theorem Tryz.lays156:Go.Proofs.Lays.n156 Tryz.prog Tryz.lays156_ren:={
 mixed:=by kernel_rfl
 f156:=Tryz.func99.trans (congrArg some (by kernel_rfl))
 f165:=Tryz.func110.trans (congrArg some (by kernel_rfl))
 f166:=Tryz.func111.trans (congrArg some (by kernel_rfl))
 f169:=Tryz.func112.trans (congrArg some (by kernel_rfl))
 f240:=Tryz.func121.trans (congrArg some (by kernel_rfl))
 f241:=Tryz.func122.trans (congrArg some (by kernel_rfl))
 f276:=Tryz.func146.trans (congrArg some (by kernel_rfl))
 f277:=Tryz.func147.trans (congrArg some (by kernel_rfl))
 t0:=Tryz.underlying0
 a0:=Tryz.isAgg0
 z0:=Tryz.sizeOf0
 v0:=Tryz.zeroValue0
 t3:=Tryz.underlying3
 a3:=Tryz.isAgg3
 z3:=Tryz.sizeOf3
 v3:=Tryz.zeroValue3
 t4:=Tryz.underlying4
 a4:=Tryz.isAgg4
 z4:=Tryz.sizeOf4
 v4:=Tryz.zeroValue4
 t9:=Tryz.underlying9
 a9:=Tryz.isAgg9
 z9:=Tryz.sizeOf9
 v9:=Tryz.zeroValue9
 t20:=Tryz.underlying20
 a20:=Tryz.isAgg20
 z20:=Tryz.sizeOf20
 v20:=Tryz.zeroValue20
 t31:=Tryz.underlying91
 a31:=Tryz.isAgg91
 z31:=Tryz.sizeOf91
 v31:=Tryz.zeroValue91
 t37:=Tryz.underlying109
 a37:=Tryz.isAgg109
 z37:=Tryz.sizeOf109
 v37:=Tryz.zeroValue109
 t70:=Tryz.underlying108
 a70:=Tryz.isAgg108
 z70:=Tryz.sizeOf108
 v70:=Tryz.zeroValue108
 t72:=Tryz.underlying111
 a72:=Tryz.isAgg111
 z72:=Tryz.sizeOf111
 v72:=Tryz.zeroValue111
 t75:=Tryz.underlying98
 a75:=Tryz.isAgg98
 z75:=Tryz.sizeOf98
 v75:=Tryz.zeroValue98
 t76:=Tryz.underlying99
 a76:=Tryz.isAgg99
 z76:=Tryz.sizeOf99
 v76:=Tryz.zeroValue99
 t127:=Tryz.underlying120
 a127:=Tryz.isAgg120
 z127:=Tryz.sizeOf120
 v127:=Tryz.zeroValue120
 t164:=Tryz.underlying145
 a164:=Tryz.isAgg145
 z164:=Tryz.sizeOf145
 v164:=Tryz.zeroValue145 }
theorem Tryz.Builder_Extra_156:Builder.Extra Tryz.prog Tryz.lays156_ren:={
 sizeBuilder:=by kernel_rfl
 liesBuilder:=by kernel_rfl
 t5:=Tryz.underlying5
 a5:=Tryz.isAgg5
 z5:=Tryz.sizeOf5
 v5:=Tryz.zeroValue5
 infoByte:=by kernel_rfl
 cellsByte:=by kernel_rfl
 sizeByte:=by kernel_rfl
 neB5:=by decide }
open Go.RowKit in
open Go.RowKit in
theorem Tryz.strings_Join (bk o c:Nat) (xs:List ByteArray) (sep:ByteArray) (w:World) (hcells:∀(j:Nat) x,xs[j]?=some x→w.cell? ⟨bk,o+j,none⟩=some (.string x)) (hbk:bk < w.heap.size) (hN:xs.length≤140737488355328) (hcap:xs.length≤c) (hlen:(Lib.join (xs.map (·.data.toList)) sep.data.toList).length≤140737488355328) :
  Calls Tryz.prog 99 #[.slice (some ⟨bk,o,none⟩) xs.length c,.string sep] w fun e w'=>e=.returned (.string ⟨(Lib.join (xs.map (·.data.toList)) sep.data.toList).toArray⟩)∧Below w.heap.size w w':=Any.strings_Join Tryz.lays156 Tryz.Builder_Extra_156 bk o c xs sep w hcells hbk hN hcap hlen
def Tryz.laysM171_ren:Go.Shelf.Ren:=⟨fun|171=>98|243=>109|246=>120|283=>142|284=>143|285=>144|286=>145|129=>141|317=>163|318=>164|319=>165|320=>166|337=>173|338=>174|n=>n,fun|3=>3|9=>9|2=>2|4=>4|171=>141|0=>0|53=>140|37=>109|5=>5|173=>143|212=>166|51=>138|20=>20|213=>167|46=>118|232=>182|233=>183|n=>n,fun|17=>3|18=>6|19=>7|n=>n⟩
theorem Tryz.laysM171:Go.Proofs.LaysM.n171 Tryz.prog Tryz.laysM171_ren:={
 mixed:=by kernel_rfl
 f129:=Tryz.func141.trans (congrArg some (by kernel_rfl))
 f171:=Tryz.func98.trans (congrArg some (by kernel_rfl))
 f243:=Tryz.func109.trans (congrArg some (by kernel_rfl))
 f246:=Tryz.func120.trans (congrArg some (by kernel_rfl))
 f283:=Tryz.func142.trans (congrArg some (by kernel_rfl))
 f284:=Tryz.func143.trans (congrArg some (by kernel_rfl))
 f285:=Tryz.func144.trans (congrArg some (by kernel_rfl))
 f286:=Tryz.func145.trans (congrArg some (by kernel_rfl))
 f317:=Tryz.func163.trans (congrArg some (by kernel_rfl))
 f318:=Tryz.func164.trans (congrArg some (by kernel_rfl))
 f319:=Tryz.func165.trans (congrArg some (by kernel_rfl))
 f320:=Tryz.func166.trans (congrArg some (by kernel_rfl))
 f337:=Tryz.func173.trans (congrArg some (by kernel_rfl))
 f338:=Tryz.func174.trans (congrArg some (by kernel_rfl))
 t0:=Tryz.underlying0
 a0:=Tryz.isAgg0
 z0:=Tryz.sizeOf0
 v0:=Tryz.zeroValue0
 t2:=Tryz.underlying2
 a2:=Tryz.isAgg2
 z2:=Tryz.sizeOf2
 v2:=Tryz.zeroValue2
 t3:=Tryz.underlying3
 a3:=Tryz.isAgg3
 z3:=Tryz.sizeOf3
 v3:=Tryz.zeroValue3
 t4:=Tryz.underlying4
 a4:=Tryz.isAgg4
 z4:=Tryz.sizeOf4
 v4:=Tryz.zeroValue4
 t5:=Tryz.underlying5
 a5:=Tryz.isAgg5
 z5:=Tryz.sizeOf5
 v5:=Tryz.zeroValue5
 t9:=Tryz.underlying9
 a9:=Tryz.isAgg9
 z9:=Tryz.sizeOf9
 v9:=Tryz.zeroValue9
 t20:=Tryz.underlying20
 a20:=Tryz.isAgg20
 z20:=Tryz.sizeOf20
 v20:=Tryz.zeroValue20
 t37:=Tryz.underlying109
 a37:=Tryz.isAgg109
 z37:=Tryz.sizeOf109
 v37:=Tryz.zeroValue109
 t46:=Tryz.underlying118
 a46:=Tryz.isAgg118
 z46:=Tryz.sizeOf118
 v46:=Tryz.zeroValue118
 t51:=Tryz.underlying138
 a51:=Tryz.isAgg138
 z51:=Tryz.sizeOf138
 v51:=Tryz.zeroValue138
 t53:=Tryz.underlying140
 a53:=Tryz.isAgg140
 z53:=Tryz.sizeOf140
 v53:=Tryz.zeroValue140
 t171:=Tryz.underlying141
 a171:=Tryz.isAgg141
 z171:=Tryz.sizeOf141
 v171:=Tryz.zeroValue141
 t173:=Tryz.underlying143
 a173:=Tryz.isAgg143
 z173:=Tryz.sizeOf143
 v173:=Tryz.zeroValue143
 t212:=Tryz.underlying166
 a212:=Tryz.isAgg166
 z212:=Tryz.sizeOf166
 v212:=Tryz.zeroValue166
 t213:=Tryz.underlying167
 a213:=Tryz.isAgg167
 z213:=Tryz.sizeOf167
 t232:=Tryz.underlying182
 a232:=Tryz.isAgg182
 z232:=Tryz.sizeOf182
 v232:=Tryz.zeroValue182
 t233:=Tryz.underlying183
 a233:=Tryz.isAgg183
 z233:=Tryz.sizeOf183
 v233:=Tryz.zeroValue183
 g17:=by kernel_rfl
 g18:=by kernel_rfl
 g19:=by kernel_rfl
 i0:=by kernel_rfl
 i2:=by kernel_rfl
 i3:=by kernel_rfl
 i4:=by kernel_rfl
 i5:=by kernel_rfl
 i9:=by kernel_rfl
 i20:=by kernel_rfl
 i37:=by kernel_rfl
 i46:=by kernel_rfl
 i51:=by kernel_rfl
 i53:=by kernel_rfl
 i171:=by kernel_rfl
 i173:=by kernel_rfl
 i212:=by kernel_rfl
 i232:=by kernel_rfl
 i233:=by kernel_rfl
 m17:=by kernel_rfl
 m18:=by kernel_rfl
 m19:=by kernel_rfl }
open Go.RowKit Go.Sort Go.Lib in
theorem Tryz.strconv_Itoa (n : Int) (h0 : -9223372036854775808 ≤ n) (h1 : n ≤ 9223372036854775807) (w : World) (htab : Lib.TabIs Tryz.prog w "internal/strconv.uint64pow10" .u64 Lib.pow10Tab) :
  Calls Tryz.prog 98 #[.int .i64 n] w fun e w'=>e=.returned (.string ⟨(Lib.itoa n).toArray⟩)∧∃k os,w'=grow (w.drewN k) os:=Any.strconv_Itoa Tryz.laysM171 n h0 h1 w htab
def Tryz.sortP_ren:Go.Shelf.Ren:=⟨fun|6=>103|15=>118|14=>117|28=>140|29=>141|20=>132|21=>133|22=>134|23=>135|24=>136|25=>137|26=>138|27=>139|46=>158|47=>159|48=>160|49=>161|50=>162|57=>172|n=>n,fun|22=>22|24=>25|25=>102|3=>3|39=>118|0=>0|53=>138|55=>140|4=>4|46=>131|45=>130|50=>135|5=>5|9=>9|66=>159|70=>163|76=>175|77=>176|n=>n,fun|n=>n⟩
theorem Tryz.sortP:Go.Proofs.SlLaysF0.n6 Tryz.prog Tryz.sortP_ren:={
 mixed:=by kernel_rfl
 f6:=⟨Tryz.f103.name,by decide,Tryz.func103.trans (congrArg some (by kernel_rfl))⟩
 f14:=⟨Tryz.f117.name,by decide,Tryz.func117.trans (congrArg some (by kernel_rfl))⟩
 f15:=Tryz.func118.trans (congrArg some (by kernel_rfl))
 f20:=⟨Tryz.f132.name,by decide,Tryz.func132.trans (congrArg some (by kernel_rfl))⟩
 f21:=⟨Tryz.f133.name,by decide,Tryz.func133.trans (congrArg some (by kernel_rfl))⟩
 f22:=⟨Tryz.f134.name,by decide,Tryz.func134.trans (congrArg some (by kernel_rfl))⟩
 f23:=⟨Tryz.f135.name,by decide,Tryz.func135.trans (congrArg some (by kernel_rfl))⟩
 f24:=⟨Tryz.f136.name,by decide,Tryz.func136.trans (congrArg some (by kernel_rfl))⟩
 f25:=⟨Tryz.f137.name,by decide,Tryz.func137.trans (congrArg some (by kernel_rfl))⟩
 f26:=⟨Tryz.f138.name,by decide,Tryz.func138.trans (congrArg some (by kernel_rfl))⟩
 f27:=⟨Tryz.f139.name,by decide,Tryz.func139.trans (congrArg some (by kernel_rfl))⟩
 f28:=Tryz.func140.trans (congrArg some (by kernel_rfl))
 f29:=Tryz.func141.trans (congrArg some (by kernel_rfl))
 f46:=⟨Tryz.f158.name,by decide,Tryz.func158.trans (congrArg some (by kernel_rfl))⟩
 f47:=Tryz.func159.trans (congrArg some (by kernel_rfl))
 f48:=Tryz.func160.trans (congrArg some (by kernel_rfl))
 f49:=⟨Tryz.f161.name,by decide,Tryz.func161.trans (congrArg some (by kernel_rfl))⟩
 f50:=⟨Tryz.f162.name,by decide,Tryz.func162.trans (congrArg some (by kernel_rfl))⟩
 f57:=⟨Tryz.f172.name,by decide,Tryz.func172.trans (congrArg some (by kernel_rfl))⟩
 t0:=Tryz.underlying0
 a0:=Tryz.isAgg0
 z0:=Tryz.sizeOf0
 v0:=Tryz.zeroValue0
 t3:=Tryz.underlying3
 a3:=Tryz.isAgg3
 z3:=Tryz.sizeOf3
 v3:=Tryz.zeroValue3
 t4:=Tryz.underlying4
 a4:=Tryz.isAgg4
 z4:=Tryz.sizeOf4
 v4:=Tryz.zeroValue4
 t5:=Tryz.underlying5
 a5:=Tryz.isAgg5
 z5:=Tryz.sizeOf5
 v5:=Tryz.zeroValue5
 t9:=Tryz.underlying9
 a9:=Tryz.isAgg9
 z9:=Tryz.sizeOf9
 v9:=Tryz.zeroValue9
 t22:=Tryz.underlying22
 a22:=Tryz.isAgg22
 z22:=Tryz.sizeOf22
 v22:=Tryz.zeroValue22
 t25:=Tryz.underlying102
 a25:=Tryz.isAgg102
 z25:=Tryz.sizeOf102
 v25:=Tryz.zeroValue102
 t39:=Tryz.underlying118
 a39:=Tryz.isAgg118
 z39:=Tryz.sizeOf118
 v39:=Tryz.zeroValue118
 t45:=Tryz.underlying130
 a45:=Tryz.isAgg130
 z45:=Tryz.sizeOf130
 v45:=Tryz.zeroValue130
 t46:=Tryz.underlying131
 a46:=Tryz.isAgg131
 z46:=Tryz.sizeOf131
 v46:=Tryz.zeroValue131
 t50:=Tryz.underlying135
 a50:=Tryz.isAgg135
 z50:=Tryz.sizeOf135
 v50:=Tryz.zeroValue135
 t53:=Tryz.underlying138
 a53:=Tryz.isAgg138
 z53:=Tryz.sizeOf138
 v53:=Tryz.zeroValue138
 t55:=Tryz.underlying140
 a55:=Tryz.isAgg140
 z55:=Tryz.sizeOf140
 v55:=Tryz.zeroValue140
 t66:=Tryz.underlying159
 a66:=Tryz.isAgg159
 z66:=Tryz.sizeOf159
 v66:=Tryz.zeroValue159
 t70:=Tryz.underlying163
 a70:=Tryz.isAgg163
 z70:=Tryz.sizeOf163
 v70:=Tryz.zeroValue163
 t76:=Tryz.underlying175
 a76:=Tryz.isAgg175
 z76:=Tryz.sizeOf175
 v76:=Tryz.zeroValue175
 t77:=Tryz.underlying176
 a77:=Tryz.isAgg176
 z77:=Tryz.sizeOf176
 v77:=Tryz.zeroValue176 }
end Go.Proofs

namespace Go.VS
open Go Go.RowKit Go.Proofs Go.Sort Go.Shelf
section
variable {C:Cfg}
theorem mok_keep {M:Mem} {w w':World} (h:MOK M w) (hk:∀b,b < w.heap.size→w'.heap[b]?=w.heap[b]?):MOK M w':=fun b i v hv=>by
 have h1:=h b i v hv
 have hb:=World.block_lt_of_cell? w _ h1
 unfold World.cell? at h1 ⊢
 rw [hk b hb];exact h1
theorem inl_of_pure {K:FuncId} {args:List D} (h:PureOK C K args (.tup [])) (hn:∀(M:Mem) (m:Loc) (vs:List Value),zI M m args vs→zI M noLoc args vs) (nxt:Nat):InlOK C K args [] nxt (.tup []) [] nxt:=fun E M m w vs hR hG hA hf ho=>by
 refine (h M w vs hR.mok hG hR.tab (hn M m _ hA)).mono ?_
 rintro e w' ⟨v,M',rfl,_,_,k3,k4,k5,k6,k7,k8,_⟩
 refine ⟨v,M,m,rfl,MLe.refl _,fun _ _=>rfl,fun x h1 h2=>hf x h2,?_,?_⟩
 ·simp only [Rep] at k3 ⊢
  obtain ⟨xs,rfl,hx⟩:=k3
  exact ⟨xs,rfl,hx⟩
 ·exact ⟨⟨k4.1.trans hR.os.1,fun q=>Nat.le_trans (hR.os.2 q) (k4.2 q)⟩,k5.trans hR.tape,k6.trans hR.output,Nat.le_trans hR.size k7,fun b hb=>(k8 b (Nat.lt_of_lt_of_le (hR.frlt b hb) hR.size)).trans (hR.keep b hb),hR.frlt,hR.mfr,mok_keep hR.mok k8,
   ⟨fun o ob h=>by simp [zw] at h,fun o ob h=>by simp [zw] at h,fun o o' ob ob' b s s' h=>by simp [zw] at h,fun o ob b s h=>by simp [zw] at h⟩⟩
theorem pure_string (hd:C.dr=false) {K:FuncId} {args:List D} {s:ByteArray} (h:∀(M:Mem) (w:World) (vs:Array Value),MOK M w→TabOK C w→zI M noLoc args vs.toList →
  Calls C.P K vs w fun e w'=>e=.returned (.string s)∧Below w.heap.size w w'):PureOK C K args (.val (.string s)):=fun M w vs h1 _ h3 h4=>by
 refine (h M w vs h1 h3 h4).mono ?_
 rintro e w' ⟨rfl,k⟩
 exact ⟨_,M,rfl,MLe.refl _,mok_keep h1 k.block,by simp only [Rep],⟨k.os,fun q=>by rw [hd] at q;cases q⟩,k.tape,k.output,k.size,k.block,fun _ _ _=>rfl⟩
def unS:D→Option ByteArray
 |.val v=>match v with
  |.string s=>some s
  |_=>none
 |_=>none
def unSs:List D→Option (List ByteArray)
 |[]=>some []
 |d::ds=>match unS d,unSs ds with
  |some x,some l=>some (x::l)
  |_,_=>none
theorem unS_eq {d:D} {s:ByteArray} (h:unS d=some s):d=.val (.string s):=by
 unfold unS at h
 split at h
 ·split at h
  ·cases h;rfl
  ·cases h
 ·cases h
theorem unSs_eq:∀{ds:List D} {l:List ByteArray},unSs ds=some l→ds=l.map fun s=>.val (.string s)
 |[],l,h=>by simp [unSs] at h;subst h;rfl
 |d::ds,l,h=>by
  unfold unSs at h
  split at h
  ·rename_i e1 e2;cases h;rw [unS_eq e1,unSs_eq e2];rfl
  ·cases h
def joinX (args:List D):Option D:=match args with
 |[.sl nl els sz _,d]=>match unS d,unSs els with
  |some sep,some xs=>if nl=false∧sz=1∧xs≠[]∧xs.length≤140737488355328∧(Lib.join (xs.map (·.data.toList)) sep.data.toList).length≤140737488355328 then
    some (.val (.string ⟨(Lib.join (xs.map (·.data.toList)) sep.data.toList).toArray⟩)) else none
  |_,_=>none
 |_=>none
theorem repE_cells {M:Mem} {w:World} (hM:MOK M w):∀(xs:List ByteArray) (b o:Nat),RepE M (xs.map fun s=>D.val (.string s)) 1 b o→∀(j:Nat) x,xs[j]?=some x→w.cell? ⟨b,o+j,none⟩=some (.string x)
 |[],_,_,_,j,x,hx=>by simp at hx
 |s::xs,b,o,h,j,x,hx=>by
  simp only [List.map_cons,RepE,Rep] at h
  obtain ⟨⟨u,rfl,_,hm⟩,h2⟩:=h
  cases j with
  |zero =>
   simp at hx;subst hx
   have:=hm 0 (.string s) (by simp [Value.cells])
   exact hM _ _ _ this
  |succ j =>
   have:=repE_cells hM xs b (o+1) h2 j x (by simpa using hx)
   rw [show o+(j+1)=o+1+j from by omega];exact this
theorem joinX_ok (hd:C.dr=false) {K:FuncId} (hJ:∀(bk o c:Nat) (xs:List ByteArray) (sep:ByteArray) (w:World),(∀(j:Nat) x,xs[j]?=some x→w.cell? ⟨bk,o+j,none⟩=some (.string x))→bk < w.heap.size→xs.length≤140737488355328→xs.length≤c→(Lib.join (xs.map (·.data.toList)) sep.data.toList).length≤140737488355328 →
  Calls C.P K #[.slice (some ⟨bk,o,none⟩) xs.length c,.string sep] w fun e w'=>e=.returned (.string ⟨(Lib.join (xs.map (·.data.toList)) sep.data.toList).toArray⟩)∧Below w.heap.size w w')
  {args:List D} {d:D} (h:joinX args=some d):PureOK C K args d:=by
 unfold joinX at h
 split at h
 ·rename_i nl els sz cap d0
  split at h
  ·rename_i sep xs e1 e2
   split at h
   ·rename_i hc
    obtain ⟨rfl,rfl,hne,hl,hlen⟩:=hc
    cases h
    rw [unS_eq e1,unSs_eq e2]
    refine pure_string hd fun M w vs h1 _ h3=>?_
    simp only [zI,Rep] at h3
    obtain ⟨v,r,e0,⟨_,hs⟩,v2,r2,rfl,rfl,rfl⟩:=h3
    obtain ⟨b,o,sp,c,rfl,hsp,hc1,_,_,hcell⟩:=hs trivial
    have hsp':sp=none:=hsp (by simpa using hne)
    subst hsp'
    have hvs:vs=#[.slice (some ⟨b,o,none⟩) xs.length c,.string sep]:=by
     cases vs
     simp only [] at e0
     subst e0
     simp
    rw [hvs]
    have hcells:=repE_cells h1 xs b o hcell
    refine hJ b o c xs sep w hcells ?_ hl (by simpa using hc1) hlen
    cases xs with
    |nil=>exact absurd rfl hne
    |cons x xs=>exact World.block_lt_of_cell? w _ (hcells 0 x rfl)
   ·cases h
  ·cases h
 ·cases h
def itoaX (args:List D):Option D:=match args with
 |[d]=>match unI d with
  |some n=>if -9223372036854775808≤n∧n≤9223372036854775807 then some (.val (.string ⟨(Lib.itoa n).toArray⟩)) else none
  |none=>none
 |_=>none
theorem itoaX_ok (hd:C.dr=false) {K g:FuncId} {name:String} {cs:Array Value} (hg:C.P.globalNamed name=some g) (ht:C.tab g=some cs)
  (hI:∀(n:Int),-9223372036854775808≤n→n≤9223372036854775807→∀w:World,w.var? C.P name=some cs→Calls C.P K #[.int .i64 n] w fun e w'=>e=.returned (.string ⟨(Lib.itoa n).toArray⟩)∧∃k os,w'=grow (w.drewN k) os)
  {args:List D} {d:D} (h:itoaX args=some d):PureOK C K args d:=by
 unfold itoaX at h
 split at h
 ·split at h
  ·rename_i n e1
   split at h
   ·rename_i hc
    cases h
    rw [unI_eq e1]
    refine pure_string hd fun M w vs h1 h2 h3=>?_
    simp only [zI,Rep,I] at h3
    obtain ⟨v,r,e0,rfl,rfl⟩:=h3
    have hvs:vs=#[.int .i64 n]:=by
     cases vs
     simp only [] at e0
     subst e0
     simp
    rw [hvs]
    obtain ⟨t,fr,hh⟩:=h2 g cs ht
    refine (hI n hc.1 hc.2 w (by simp only [World.var?,hg,Option.bind_some,hh])).mono ?_
    rintro e w' ⟨rfl,k,os,rfl⟩
    refine ⟨rfl,⟨rfl,rfl,rfl,?_,fun b hb=>?_⟩⟩
    ·simp [grow,World.drewN]
    ·exact grow_heap (w.drewN k) os hb
   ·cases h
  ·cases h
 ·cases h
end
end Go.VS

namespace Go.VS.F1
open Go Go.Proofs Go.RowKit Go.Shelf Go.Sort
def powTab:Array Value:=#[.int .u64 1,.int .u64 10,.int .u64 100,.int .u64 1000,.int .u64 10000,.int .u64 100000,.int .u64 1000000,.int .u64 10000000,.int .u64 100000000,.int .u64 1000000000,.int .u64 10000000000,.int .u64 100000000000,.int .u64 1000000000000,.int .u64 10000000000000,.int .u64 100000000000000,.int .u64 1000000000000000,.int .u64 10000000000000000,.int .u64 100000000000000000,.int .u64 1000000000000000000,.int .u64 10000000000000000000]
theorem powTab_is:powTab=(Lib.pow10Tab.map fun z=>Value.int .u64 z).toArray:=by kernel_rfl
noncomputable def gPow : Nat := (Tryz.prog.globalNamed "internal/strconv.uint64pow10").getD 0
theorem gPow_is : Tryz.prog.globalNamed "internal/strconv.uint64pow10" = some gPow := by kernel_rfl
noncomputable def cfg:Cfg:={ P:=Tryz.prog,fn:=zy.find,ty:=zO.find,keep:=find2 keepTab,inl:=fun K=>memN K [36,38,43,44,60,61,62,63,64,69,70,72,82,87,96,103,108,110,111,112,117,121,122,132,133,134,135,136,137,138,139,144,145,146,147,158,160,161,162,172,190],ext:=fun K=>bif eqb K 98 then some itoaX else bif eqb K 99 then some joinX else none,xinl:=fun _=>none,glob:=fun _=>none,eqok:=fun t=>(eqTab.find t).isSome,dr:=false,tab:=fun g=>bif eqb g gPow then some powTab else none }
theorem cfg_fn:cfg.fn=zy.find:=rfl
theorem cfg_ty:cfg.ty=zO.find:=rfl
theorem cfg_eqok (t:TypeId):cfg.eqok t=(eqTab.find t).isSome:=rfl
theorem cfgOK:CfgOK cfg where
 ty:=fun _ _ h=>tyTab_ok.find h
 fn:=fun _ _ h=>fnTab_ok.find h
 enter:=fun _ _ h=>enTab_ok.find h
 mixed:=by kernel_rfl
 eqok:=fun t h=>by
  have h1:(eqTab.find t).isSome=true:=h
  cases hf:eqTab.find t with
  |none=>rw [hf] at h1;cases h1
  |some u =>
   have:=eqTab_ok.find hf
   unfold eqB at this
   simp only [Bool.and_eq_true,Bool.not_eq_true'] at this
   refine ⟨this.1.1,this.1.2,fun fs hfs f hm=>?_⟩
   have h2:=this.2
   have hfs':Tryz.prog.underlying t=some (.struct fs):=hfs
   rw [hfs'] at h2
   simp only [List.all_eq_true,bne_iff_ne] at h2
   exact h2 f hm
theorem globOK {M:Mem}:yk cfg M:=fun g d h=>by cases h
theorem ck {S:Sm} {objs:List (Nat × Ob)} {nxt K:Nat} {args:List D} {fn:Func} (h:zy.find K=some fn) (hi:memN K [36,38,43,44,60,61,62,63,64,69,70,72,82,87,96,103,108,110,111,112,117,121,122,132,133,134,135,136,137,138,139,144,145,146,147,158,160,161,162,172,190]=false):zf cfg S objs nxt K args=z8 S objs nxt K args:=by
 simp only [zf,cfg_fn,h]
 rw [show cfg.inl K=memN K [36,38,43,44,60,61,62,63,64,69,70,72,82,87,96,103,108,110,111,112,117,121,122,132,133,134,135,136,137,138,139,144,145,146,147,158,160,161,162,172,190] from rfl,hi]
 rfl
theorem lck2 {S:Sm} {objs:List (Nat × Ob)} {nxt:Nat} {args:List D}:zf cfg S objs nxt 2 args=z8 S objs nxt 2 args:=ck cfn2 rfl
theorem lck3 {S:Sm} {objs:List (Nat × Ob)} {nxt:Nat} {args:List D}:zf cfg S objs nxt 3 args=z8 S objs nxt 3 args:=ck cfn3 rfl
theorem lck4 {S:Sm} {objs:List (Nat × Ob)} {nxt:Nat} {args:List D}:zf cfg S objs nxt 4 args=z8 S objs nxt 4 args:=ck cfn4 rfl
theorem lck5 {S:Sm} {objs:List (Nat × Ob)} {nxt:Nat} {args:List D}:zf cfg S objs nxt 5 args=z8 S objs nxt 5 args:=ck cfn5 rfl
theorem lck6 {S:Sm} {objs:List (Nat × Ob)} {nxt:Nat} {args:List D}:zf cfg S objs nxt 6 args=z8 S objs nxt 6 args:=ck cfn6 rfl
theorem lck7 {S:Sm} {objs:List (Nat × Ob)} {nxt:Nat} {args:List D}:zf cfg S objs nxt 7 args=z8 S objs nxt 7 args:=ck cfn7 rfl
theorem lck8 {S:Sm} {objs:List (Nat × Ob)} {nxt:Nat} {args:List D}:zf cfg S objs nxt 8 args=z8 S objs nxt 8 args:=ck cfn8 rfl
theorem lck9 {S:Sm} {objs:List (Nat × Ob)} {nxt:Nat} {args:List D}:zf cfg S objs nxt 9 args=z8 S objs nxt 9 args:=ck cfn9 rfl
theorem lck10 {S:Sm} {objs:List (Nat × Ob)} {nxt:Nat} {args:List D}:zf cfg S objs nxt 10 args=z8 S objs nxt 10 args:=ck cfn10 rfl
theorem lck11 {S:Sm} {objs:List (Nat × Ob)} {nxt:Nat} {args:List D}:zf cfg S objs nxt 11 args=z8 S objs nxt 11 args:=ck cfn11 rfl
theorem lck12 {S:Sm} {objs:List (Nat × Ob)} {nxt:Nat} {args:List D}:zf cfg S objs nxt 12 args=z8 S objs nxt 12 args:=ck cfn12 rfl
theorem lck13 {S:Sm} {objs:List (Nat × Ob)} {nxt:Nat} {args:List D}:zf cfg S objs nxt 13 args=z8 S objs nxt 13 args:=ck cfn13 rfl
theorem lck14 {S:Sm} {objs:List (Nat × Ob)} {nxt:Nat} {args:List D}:zf cfg S objs nxt 14 args=z8 S objs nxt 14 args:=ck cfn14 rfl
theorem lck15 {S:Sm} {objs:List (Nat × Ob)} {nxt:Nat} {args:List D}:zf cfg S objs nxt 15 args=z8 S objs nxt 15 args:=ck cfn15 rfl
theorem lck16 {S:Sm} {objs:List (Nat × Ob)} {nxt:Nat} {args:List D}:zf cfg S objs nxt 16 args=z8 S objs nxt 16 args:=ck cfn16 rfl
theorem lck17 {S:Sm} {objs:List (Nat × Ob)} {nxt:Nat} {args:List D}:zf cfg S objs nxt 17 args=z8 S objs nxt 17 args:=ck cfn17 rfl
theorem lck18 {S:Sm} {objs:List (Nat × Ob)} {nxt:Nat} {args:List D}:zf cfg S objs nxt 18 args=z8 S objs nxt 18 args:=ck cfn18 rfl
theorem lck19 {S:Sm} {objs:List (Nat × Ob)} {nxt:Nat} {args:List D}:zf cfg S objs nxt 19 args=z8 S objs nxt 19 args:=ck cfn19 rfl
theorem lck20 {S:Sm} {objs:List (Nat × Ob)} {nxt:Nat} {args:List D}:zf cfg S objs nxt 20 args=z8 S objs nxt 20 args:=ck cfn20 rfl
theorem lck21 {S:Sm} {objs:List (Nat × Ob)} {nxt:Nat} {args:List D}:zf cfg S objs nxt 21 args=z8 S objs nxt 21 args:=ck cfn21 rfl
theorem lck22 {S:Sm} {objs:List (Nat × Ob)} {nxt:Nat} {args:List D}:zf cfg S objs nxt 22 args=z8 S objs nxt 22 args:=ck cfn22 rfl
theorem lck23 {S:Sm} {objs:List (Nat × Ob)} {nxt:Nat} {args:List D}:zf cfg S objs nxt 23 args=z8 S objs nxt 23 args:=ck cfn23 rfl
theorem lck24 {S:Sm} {objs:List (Nat × Ob)} {nxt:Nat} {args:List D}:zf cfg S objs nxt 24 args=z8 S objs nxt 24 args:=ck cfn24 rfl
theorem lck25 {S:Sm} {objs:List (Nat × Ob)} {nxt:Nat} {args:List D}:zf cfg S objs nxt 25 args=z8 S objs nxt 25 args:=ck cfn25 rfl
theorem lck26 {S:Sm} {objs:List (Nat × Ob)} {nxt:Nat} {args:List D}:zf cfg S objs nxt 26 args=z8 S objs nxt 26 args:=ck cfn26 rfl
theorem lck27 {S:Sm} {objs:List (Nat × Ob)} {nxt:Nat} {args:List D}:zf cfg S objs nxt 27 args=z8 S objs nxt 27 args:=ck cfn27 rfl
theorem lck28 {S:Sm} {objs:List (Nat × Ob)} {nxt:Nat} {args:List D}:zf cfg S objs nxt 28 args=z8 S objs nxt 28 args:=ck cfn28 rfl
theorem lck29 {S:Sm} {objs:List (Nat × Ob)} {nxt:Nat} {args:List D}:zf cfg S objs nxt 29 args=z8 S objs nxt 29 args:=ck cfn29 rfl
theorem lck30 {S:Sm} {objs:List (Nat × Ob)} {nxt:Nat} {args:List D}:zf cfg S objs nxt 30 args=z8 S objs nxt 30 args:=ck cfn30 rfl
theorem lck31 {S:Sm} {objs:List (Nat × Ob)} {nxt:Nat} {args:List D}:zf cfg S objs nxt 31 args=z8 S objs nxt 31 args:=ck cfn31 rfl
theorem lck32 {S:Sm} {objs:List (Nat × Ob)} {nxt:Nat} {args:List D}:zf cfg S objs nxt 32 args=z8 S objs nxt 32 args:=ck cfn32 rfl
theorem lck33 {S:Sm} {objs:List (Nat × Ob)} {nxt:Nat} {args:List D}:zf cfg S objs nxt 33 args=z8 S objs nxt 33 args:=ck cfn33 rfl
theorem lck34 {S:Sm} {objs:List (Nat × Ob)} {nxt:Nat} {args:List D}:zf cfg S objs nxt 34 args=z8 S objs nxt 34 args:=ck cfn34 rfl
theorem lck35 {S:Sm} {objs:List (Nat × Ob)} {nxt:Nat} {args:List D}:zf cfg S objs nxt 35 args=z8 S objs nxt 35 args:=ck cfn35 rfl
theorem lck37 {S:Sm} {objs:List (Nat × Ob)} {nxt:Nat} {args:List D}:zf cfg S objs nxt 37 args=z8 S objs nxt 37 args:=ck cfn37 rfl
theorem lck39 {S:Sm} {objs:List (Nat × Ob)} {nxt:Nat} {args:List D}:zf cfg S objs nxt 39 args=z8 S objs nxt 39 args:=ck cfn39 rfl
theorem lck40 {S:Sm} {objs:List (Nat × Ob)} {nxt:Nat} {args:List D}:zf cfg S objs nxt 40 args=z8 S objs nxt 40 args:=ck cfn40 rfl
theorem lck41 {S:Sm} {objs:List (Nat × Ob)} {nxt:Nat} {args:List D}:zf cfg S objs nxt 41 args=z8 S objs nxt 41 args:=ck cfn41 rfl
theorem lck42 {S:Sm} {objs:List (Nat × Ob)} {nxt:Nat} {args:List D}:zf cfg S objs nxt 42 args=z8 S objs nxt 42 args:=ck cfn42 rfl
theorem lck45 {S:Sm} {objs:List (Nat × Ob)} {nxt:Nat} {args:List D}:zf cfg S objs nxt 45 args=z8 S objs nxt 45 args:=ck cfn45 rfl
theorem lck46 {S:Sm} {objs:List (Nat × Ob)} {nxt:Nat} {args:List D}:zf cfg S objs nxt 46 args=z8 S objs nxt 46 args:=ck cfn46 rfl
theorem lck47 {S:Sm} {objs:List (Nat × Ob)} {nxt:Nat} {args:List D}:zf cfg S objs nxt 47 args=z8 S objs nxt 47 args:=ck cfn47 rfl
theorem lck48 {S:Sm} {objs:List (Nat × Ob)} {nxt:Nat} {args:List D}:zf cfg S objs nxt 48 args=z8 S objs nxt 48 args:=ck cfn48 rfl
theorem lck49 {S:Sm} {objs:List (Nat × Ob)} {nxt:Nat} {args:List D}:zf cfg S objs nxt 49 args=z8 S objs nxt 49 args:=ck cfn49 rfl
theorem lck50 {S:Sm} {objs:List (Nat × Ob)} {nxt:Nat} {args:List D}:zf cfg S objs nxt 50 args=z8 S objs nxt 50 args:=ck cfn50 rfl
theorem lck51 {S:Sm} {objs:List (Nat × Ob)} {nxt:Nat} {args:List D}:zf cfg S objs nxt 51 args=z8 S objs nxt 51 args:=ck cfn51 rfl
theorem lck52 {S:Sm} {objs:List (Nat × Ob)} {nxt:Nat} {args:List D}:zf cfg S objs nxt 52 args=z8 S objs nxt 52 args:=ck cfn52 rfl
theorem lck53 {S:Sm} {objs:List (Nat × Ob)} {nxt:Nat} {args:List D}:zf cfg S objs nxt 53 args=z8 S objs nxt 53 args:=ck cfn53 rfl
theorem lck54 {S:Sm} {objs:List (Nat × Ob)} {nxt:Nat} {args:List D}:zf cfg S objs nxt 54 args=z8 S objs nxt 54 args:=ck cfn54 rfl
theorem lck55 {S:Sm} {objs:List (Nat × Ob)} {nxt:Nat} {args:List D}:zf cfg S objs nxt 55 args=z8 S objs nxt 55 args:=ck cfn55 rfl
theorem lck56 {S:Sm} {objs:List (Nat × Ob)} {nxt:Nat} {args:List D}:zf cfg S objs nxt 56 args=z8 S objs nxt 56 args:=ck cfn56 rfl
theorem lck57 {S:Sm} {objs:List (Nat × Ob)} {nxt:Nat} {args:List D}:zf cfg S objs nxt 57 args=z8 S objs nxt 57 args:=ck cfn57 rfl
theorem lck58 {S:Sm} {objs:List (Nat × Ob)} {nxt:Nat} {args:List D}:zf cfg S objs nxt 58 args=z8 S objs nxt 58 args:=ck cfn58 rfl
theorem lck59 {S:Sm} {objs:List (Nat × Ob)} {nxt:Nat} {args:List D}:zf cfg S objs nxt 59 args=z8 S objs nxt 59 args:=ck cfn59 rfl
theorem lck65 {S:Sm} {objs:List (Nat × Ob)} {nxt:Nat} {args:List D}:zf cfg S objs nxt 65 args=z8 S objs nxt 65 args:=ck cfn65 rfl
theorem lck66 {S:Sm} {objs:List (Nat × Ob)} {nxt:Nat} {args:List D}:zf cfg S objs nxt 66 args=z8 S objs nxt 66 args:=ck cfn66 rfl
theorem lck67 {S:Sm} {objs:List (Nat × Ob)} {nxt:Nat} {args:List D}:zf cfg S objs nxt 67 args=z8 S objs nxt 67 args:=ck cfn67 rfl
theorem lck68 {S:Sm} {objs:List (Nat × Ob)} {nxt:Nat} {args:List D}:zf cfg S objs nxt 68 args=z8 S objs nxt 68 args:=ck cfn68 rfl
theorem lck71 {S:Sm} {objs:List (Nat × Ob)} {nxt:Nat} {args:List D}:zf cfg S objs nxt 71 args=z8 S objs nxt 71 args:=ck cfn71 rfl
theorem lck73 {S:Sm} {objs:List (Nat × Ob)} {nxt:Nat} {args:List D}:zf cfg S objs nxt 73 args=z8 S objs nxt 73 args:=ck cfn73 rfl
theorem lck74 {S:Sm} {objs:List (Nat × Ob)} {nxt:Nat} {args:List D}:zf cfg S objs nxt 74 args=z8 S objs nxt 74 args:=ck cfn74 rfl
theorem lck75 {S:Sm} {objs:List (Nat × Ob)} {nxt:Nat} {args:List D}:zf cfg S objs nxt 75 args=z8 S objs nxt 75 args:=ck cfn75 rfl
theorem lck76 {S:Sm} {objs:List (Nat × Ob)} {nxt:Nat} {args:List D}:zf cfg S objs nxt 76 args=z8 S objs nxt 76 args:=ck cfn76 rfl
theorem lck77 {S:Sm} {objs:List (Nat × Ob)} {nxt:Nat} {args:List D}:zf cfg S objs nxt 77 args=z8 S objs nxt 77 args:=ck cfn77 rfl
theorem lck78 {S:Sm} {objs:List (Nat × Ob)} {nxt:Nat} {args:List D}:zf cfg S objs nxt 78 args=z8 S objs nxt 78 args:=ck cfn78 rfl
theorem lck79 {S:Sm} {objs:List (Nat × Ob)} {nxt:Nat} {args:List D}:zf cfg S objs nxt 79 args=z8 S objs nxt 79 args:=ck cfn79 rfl
theorem lck80 {S:Sm} {objs:List (Nat × Ob)} {nxt:Nat} {args:List D}:zf cfg S objs nxt 80 args=z8 S objs nxt 80 args:=ck cfn80 rfl
theorem lck81 {S:Sm} {objs:List (Nat × Ob)} {nxt:Nat} {args:List D}:zf cfg S objs nxt 81 args=z8 S objs nxt 81 args:=ck cfn81 rfl
theorem lck83 {S:Sm} {objs:List (Nat × Ob)} {nxt:Nat} {args:List D}:zf cfg S objs nxt 83 args=z8 S objs nxt 83 args:=ck cfn83 rfl
theorem lck84 {S:Sm} {objs:List (Nat × Ob)} {nxt:Nat} {args:List D}:zf cfg S objs nxt 84 args=z8 S objs nxt 84 args:=ck cfn84 rfl
theorem lck85 {S:Sm} {objs:List (Nat × Ob)} {nxt:Nat} {args:List D}:zf cfg S objs nxt 85 args=z8 S objs nxt 85 args:=ck cfn85 rfl
theorem lck86 {S:Sm} {objs:List (Nat × Ob)} {nxt:Nat} {args:List D}:zf cfg S objs nxt 86 args=z8 S objs nxt 86 args:=ck cfn86 rfl
theorem lck88 {S:Sm} {objs:List (Nat × Ob)} {nxt:Nat} {args:List D}:zf cfg S objs nxt 88 args=z8 S objs nxt 88 args:=ck cfn88 rfl
theorem lck89 {S:Sm} {objs:List (Nat × Ob)} {nxt:Nat} {args:List D}:zf cfg S objs nxt 89 args=z8 S objs nxt 89 args:=ck cfn89 rfl
theorem lck90 {S:Sm} {objs:List (Nat × Ob)} {nxt:Nat} {args:List D}:zf cfg S objs nxt 90 args=z8 S objs nxt 90 args:=ck cfn90 rfl
theorem lck91 {S:Sm} {objs:List (Nat × Ob)} {nxt:Nat} {args:List D}:zf cfg S objs nxt 91 args=z8 S objs nxt 91 args:=ck cfn91 rfl
theorem lck92 {S:Sm} {objs:List (Nat × Ob)} {nxt:Nat} {args:List D}:zf cfg S objs nxt 92 args=z8 S objs nxt 92 args:=ck cfn92 rfl
theorem lck93 {S:Sm} {objs:List (Nat × Ob)} {nxt:Nat} {args:List D}:zf cfg S objs nxt 93 args=z8 S objs nxt 93 args:=ck cfn93 rfl
theorem lck94 {S:Sm} {objs:List (Nat × Ob)} {nxt:Nat} {args:List D}:zf cfg S objs nxt 94 args=z8 S objs nxt 94 args:=ck cfn94 rfl
theorem lck95 {S:Sm} {objs:List (Nat × Ob)} {nxt:Nat} {args:List D}:zf cfg S objs nxt 95 args=z8 S objs nxt 95 args:=ck cfn95 rfl
theorem lck97 {S:Sm} {objs:List (Nat × Ob)} {nxt:Nat} {args:List D}:zf cfg S objs nxt 97 args=z8 S objs nxt 97 args:=ck cfn97 rfl
theorem lck98 {S:Sm} {objs:List (Nat × Ob)} {nxt:Nat} {args:List D}:zf cfg S objs nxt 98 args=z8 S objs nxt 98 args:=ck cfn98 rfl
theorem lck99 {S:Sm} {objs:List (Nat × Ob)} {nxt:Nat} {args:List D}:zf cfg S objs nxt 99 args=z8 S objs nxt 99 args:=ck cfn99 rfl
theorem lck100 {S:Sm} {objs:List (Nat × Ob)} {nxt:Nat} {args:List D}:zf cfg S objs nxt 100 args=z8 S objs nxt 100 args:=ck cfn100 rfl
theorem lck101 {S:Sm} {objs:List (Nat × Ob)} {nxt:Nat} {args:List D}:zf cfg S objs nxt 101 args=z8 S objs nxt 101 args:=ck cfn101 rfl
theorem lck102 {S:Sm} {objs:List (Nat × Ob)} {nxt:Nat} {args:List D}:zf cfg S objs nxt 102 args=z8 S objs nxt 102 args:=ck cfn102 rfl
theorem lck104 {S:Sm} {objs:List (Nat × Ob)} {nxt:Nat} {args:List D}:zf cfg S objs nxt 104 args=z8 S objs nxt 104 args:=ck cfn104 rfl
theorem lck105 {S:Sm} {objs:List (Nat × Ob)} {nxt:Nat} {args:List D}:zf cfg S objs nxt 105 args=z8 S objs nxt 105 args:=ck cfn105 rfl
theorem lck106 {S:Sm} {objs:List (Nat × Ob)} {nxt:Nat} {args:List D}:zf cfg S objs nxt 106 args=z8 S objs nxt 106 args:=ck cfn106 rfl
theorem lck107 {S:Sm} {objs:List (Nat × Ob)} {nxt:Nat} {args:List D}:zf cfg S objs nxt 107 args=z8 S objs nxt 107 args:=ck cfn107 rfl
theorem lck109 {S:Sm} {objs:List (Nat × Ob)} {nxt:Nat} {args:List D}:zf cfg S objs nxt 109 args=z8 S objs nxt 109 args:=ck cfn109 rfl
theorem lck113 {S:Sm} {objs:List (Nat × Ob)} {nxt:Nat} {args:List D}:zf cfg S objs nxt 113 args=z8 S objs nxt 113 args:=ck cfn113 rfl
theorem lck114 {S:Sm} {objs:List (Nat × Ob)} {nxt:Nat} {args:List D}:zf cfg S objs nxt 114 args=z8 S objs nxt 114 args:=ck cfn114 rfl
theorem lck115 {S:Sm} {objs:List (Nat × Ob)} {nxt:Nat} {args:List D}:zf cfg S objs nxt 115 args=z8 S objs nxt 115 args:=ck cfn115 rfl
theorem lck116 {S:Sm} {objs:List (Nat × Ob)} {nxt:Nat} {args:List D}:zf cfg S objs nxt 116 args=z8 S objs nxt 116 args:=ck cfn116 rfl
theorem lck118 {S:Sm} {objs:List (Nat × Ob)} {nxt:Nat} {args:List D}:zf cfg S objs nxt 118 args=z8 S objs nxt 118 args:=ck cfn118 rfl
theorem lck119 {S:Sm} {objs:List (Nat × Ob)} {nxt:Nat} {args:List D}:zf cfg S objs nxt 119 args=z8 S objs nxt 119 args:=ck cfn119 rfl
theorem lck120 {S:Sm} {objs:List (Nat × Ob)} {nxt:Nat} {args:List D}:zf cfg S objs nxt 120 args=z8 S objs nxt 120 args:=ck cfn120 rfl
theorem lck123 {S:Sm} {objs:List (Nat × Ob)} {nxt:Nat} {args:List D}:zf cfg S objs nxt 123 args=z8 S objs nxt 123 args:=ck cfn123 rfl
theorem lck124 {S:Sm} {objs:List (Nat × Ob)} {nxt:Nat} {args:List D}:zf cfg S objs nxt 124 args=z8 S objs nxt 124 args:=ck cfn124 rfl
theorem lck125 {S:Sm} {objs:List (Nat × Ob)} {nxt:Nat} {args:List D}:zf cfg S objs nxt 125 args=z8 S objs nxt 125 args:=ck cfn125 rfl
theorem lck126 {S:Sm} {objs:List (Nat × Ob)} {nxt:Nat} {args:List D}:zf cfg S objs nxt 126 args=z8 S objs nxt 126 args:=ck cfn126 rfl
theorem lck127 {S:Sm} {objs:List (Nat × Ob)} {nxt:Nat} {args:List D}:zf cfg S objs nxt 127 args=z8 S objs nxt 127 args:=ck cfn127 rfl
theorem lck128 {S:Sm} {objs:List (Nat × Ob)} {nxt:Nat} {args:List D}:zf cfg S objs nxt 128 args=z8 S objs nxt 128 args:=ck cfn128 rfl
theorem lck129 {S:Sm} {objs:List (Nat × Ob)} {nxt:Nat} {args:List D}:zf cfg S objs nxt 129 args=z8 S objs nxt 129 args:=ck cfn129 rfl
theorem lck130 {S:Sm} {objs:List (Nat × Ob)} {nxt:Nat} {args:List D}:zf cfg S objs nxt 130 args=z8 S objs nxt 130 args:=ck cfn130 rfl
theorem lck131 {S:Sm} {objs:List (Nat × Ob)} {nxt:Nat} {args:List D}:zf cfg S objs nxt 131 args=z8 S objs nxt 131 args:=ck cfn131 rfl
theorem lck140 {S:Sm} {objs:List (Nat × Ob)} {nxt:Nat} {args:List D}:zf cfg S objs nxt 140 args=z8 S objs nxt 140 args:=ck cfn140 rfl
theorem lck141 {S:Sm} {objs:List (Nat × Ob)} {nxt:Nat} {args:List D}:zf cfg S objs nxt 141 args=z8 S objs nxt 141 args:=ck cfn141 rfl
theorem lck142 {S:Sm} {objs:List (Nat × Ob)} {nxt:Nat} {args:List D}:zf cfg S objs nxt 142 args=z8 S objs nxt 142 args:=ck cfn142 rfl
theorem lck143 {S:Sm} {objs:List (Nat × Ob)} {nxt:Nat} {args:List D}:zf cfg S objs nxt 143 args=z8 S objs nxt 143 args:=ck cfn143 rfl
theorem lck148 {S:Sm} {objs:List (Nat × Ob)} {nxt:Nat} {args:List D}:zf cfg S objs nxt 148 args=z8 S objs nxt 148 args:=ck cfn148 rfl
theorem lck149 {S:Sm} {objs:List (Nat × Ob)} {nxt:Nat} {args:List D}:zf cfg S objs nxt 149 args=z8 S objs nxt 149 args:=ck cfn149 rfl
theorem lck151 {S:Sm} {objs:List (Nat × Ob)} {nxt:Nat} {args:List D}:zf cfg S objs nxt 151 args=z8 S objs nxt 151 args:=ck cfn151 rfl
theorem lck153 {S:Sm} {objs:List (Nat × Ob)} {nxt:Nat} {args:List D}:zf cfg S objs nxt 153 args=z8 S objs nxt 153 args:=ck cfn153 rfl
theorem lck154 {S:Sm} {objs:List (Nat × Ob)} {nxt:Nat} {args:List D}:zf cfg S objs nxt 154 args=z8 S objs nxt 154 args:=ck cfn154 rfl
theorem lck155 {S:Sm} {objs:List (Nat × Ob)} {nxt:Nat} {args:List D}:zf cfg S objs nxt 155 args=z8 S objs nxt 155 args:=ck cfn155 rfl
theorem lck156 {S:Sm} {objs:List (Nat × Ob)} {nxt:Nat} {args:List D}:zf cfg S objs nxt 156 args=z8 S objs nxt 156 args:=ck cfn156 rfl
theorem lck157 {S:Sm} {objs:List (Nat × Ob)} {nxt:Nat} {args:List D}:zf cfg S objs nxt 157 args=z8 S objs nxt 157 args:=ck cfn157 rfl
theorem lck159 {S:Sm} {objs:List (Nat × Ob)} {nxt:Nat} {args:List D}:zf cfg S objs nxt 159 args=z8 S objs nxt 159 args:=ck cfn159 rfl
theorem lck163 {S:Sm} {objs:List (Nat × Ob)} {nxt:Nat} {args:List D}:zf cfg S objs nxt 163 args=z8 S objs nxt 163 args:=ck cfn163 rfl
theorem lck164 {S:Sm} {objs:List (Nat × Ob)} {nxt:Nat} {args:List D}:zf cfg S objs nxt 164 args=z8 S objs nxt 164 args:=ck cfn164 rfl
theorem lck165 {S:Sm} {objs:List (Nat × Ob)} {nxt:Nat} {args:List D}:zf cfg S objs nxt 165 args=z8 S objs nxt 165 args:=ck cfn165 rfl
theorem lck166 {S:Sm} {objs:List (Nat × Ob)} {nxt:Nat} {args:List D}:zf cfg S objs nxt 166 args=z8 S objs nxt 166 args:=ck cfn166 rfl
theorem lck167 {S:Sm} {objs:List (Nat × Ob)} {nxt:Nat} {args:List D}:zf cfg S objs nxt 167 args=z8 S objs nxt 167 args:=ck cfn167 rfl
theorem lck169 {S:Sm} {objs:List (Nat × Ob)} {nxt:Nat} {args:List D}:zf cfg S objs nxt 169 args=z8 S objs nxt 169 args:=ck cfn169 rfl
theorem lck170 {S:Sm} {objs:List (Nat × Ob)} {nxt:Nat} {args:List D}:zf cfg S objs nxt 170 args=z8 S objs nxt 170 args:=ck cfn170 rfl
theorem lck171 {S:Sm} {objs:List (Nat × Ob)} {nxt:Nat} {args:List D}:zf cfg S objs nxt 171 args=z8 S objs nxt 171 args:=ck cfn171 rfl
theorem lck173 {S:Sm} {objs:List (Nat × Ob)} {nxt:Nat} {args:List D}:zf cfg S objs nxt 173 args=z8 S objs nxt 173 args:=ck cfn173 rfl
theorem lck174 {S:Sm} {objs:List (Nat × Ob)} {nxt:Nat} {args:List D}:zf cfg S objs nxt 174 args=z8 S objs nxt 174 args:=ck cfn174 rfl
theorem lck204 {S:Sm} {objs:List (Nat × Ob)} {nxt:Nat} {args:List D}:zf cfg S objs nxt 204 args=z8 S objs nxt 204 args:=ck cfn204 rfl
set_option linter.defProp false
def cks:=(Ai (Ai (Ai (Ai (Ai (Ai (Ai @lck2 @lck3) (Ai @lck4 @lck5)) (Ai (Ai @lck6 @lck7) (Ai @lck8 @lck9))) (Ai (Ai (Ai @lck10 @lck11) (Ai @lck12 @lck13)) (Ai (Ai @lck14 @lck15) (Ai @lck16 @lck17)))) (Ai (Ai (Ai (Ai @lck18 @lck19) (Ai @lck20 @lck21)) (Ai (Ai @lck22 @lck23) (Ai @lck24 @lck25))) (Ai (Ai (Ai @lck26 @lck27) (Ai @lck28 @lck29)) (Ai (Ai @lck30 @lck31) (Ai @lck32 @lck33))))) (Ai (Ai (Ai (Ai (Ai @lck34 @lck35) (Ai @lck37 @lck39)) (Ai (Ai @lck40 @lck41) (Ai @lck42 @lck45))) (Ai (Ai (Ai @lck46 @lck47) (Ai @lck48 @lck49)) (Ai (Ai @lck50 @lck51) (Ai @lck52 @lck53)))) (Ai (Ai (Ai (Ai @lck54 @lck55) (Ai @lck56 @lck57)) (Ai (Ai @lck58 @lck59) (Ai @lck65 @lck66))) (Ai (Ai (Ai @lck67 @lck68) (Ai @lck71 @lck73)) (Ai (Ai @lck74 @lck75) (Ai @lck76 (Ai @lck77 @lck78))))))) (Ai (Ai (Ai (Ai (Ai (Ai @lck79 @lck80) (Ai @lck81 @lck83)) (Ai (Ai @lck84 @lck85) (Ai @lck86 @lck88))) (Ai (Ai (Ai @lck89 @lck90) (Ai @lck91 @lck92)) (Ai (Ai @lck93 @lck94) (Ai @lck95 @lck97)))) (Ai (Ai (Ai (Ai @lck98 @lck99) (Ai @lck100 @lck101)) (Ai (Ai @lck102 @lck104) (Ai @lck105 @lck106))) (Ai (Ai (Ai @lck107 @lck109) (Ai @lck113 @lck114)) (Ai (Ai @lck115 @lck116) (Ai @lck118 (Ai @lck119 @lck120)))))) (Ai (Ai (Ai (Ai (Ai @lck123 @lck124) (Ai @lck125 @lck126)) (Ai (Ai @lck127 @lck128) (Ai @lck129 @lck130))) (Ai (Ai (Ai @lck131 @lck140) (Ai @lck141 @lck142)) (Ai (Ai @lck143 @lck148) (Ai @lck149 @lck151)))) (Ai (Ai (Ai (Ai @lck153 @lck154) (Ai @lck155 @lck156)) (Ai (Ai @lck157 @lck159) (Ai @lck163 @lck164))) (Ai (Ai (Ai @lck165 @lck166) (Ai @lck167 @lck169)) (Ai (Ai @lck170 @lck171) (Ai @lck173 (Ai @lck174 @lck204))))))))
attribute [go_sem] tys cks cfg_ty cfg_eqok zs_false
theorem cfg_tab:cfg.tab gPow=some powTab:=by
 show (bif eqb gPow gPow then some powTab else none)=_
 rw [yl.2 rfl];rfl
theorem extOK:ExtOK cfg where
 pure:=fun K g args d h hg=>by
  have h':(bif eqb K 98 then some itoaX else bif eqb K 99 then some joinX else none:Option (List D→Option D))=some g:=h
  cases hk:eqb K 98 with
  |true =>
   rw [hk] at h'
   have:=yl.1 hk
   subst this
   cases h'
   exact itoaX_ok (C:=cfg) rfl gPow_is cfg_tab (fun n h0 h1 w hv=>Tryz.strconv_Itoa n h0 h1 w (by unfold Lib.TabIs;rw [← powTab_is];exact hv)) hg
  |false =>
   rw [hk] at h'
   cases hj:eqb K 99 with
   |true =>
    rw [hj] at h'
    have:=yl.1 hj
    subst this
    cases h'
    exact joinX_ok (C:=cfg) rfl (fun bk o c xs sep w a1 a2 a3 a4 a5=>Tryz.strings_Join bk o c xs sep w a1 a2 a3 a4 a5) hg
   |false=>rw [hj] at h';cases h'
 inl:=fun K g args objs nxt d objs' nxt' h=>by cases h
theorem sane_ok:(lim cfg).pure 16 []=some (B true):=lim_pure.2 ⟨60,by kernel_rfl⟩
theorem nil_ok:(lim cfg).pure 103 [.sl true [] 0 none,.fn (.func 104) [] []]=some (.tup []):=lim_pure.2 ⟨60,by kernel_rfl⟩
end Go.VS.F1

namespace Go.VS
open Go Go.Proofs Go.Sort Go.Shelf Go.RowKit
def zx (x y:Int × Int):Int:=F0.ranges_gathered_1 ⟨x.1,x.2⟩ ⟨y.1,y.2⟩
theorem cmp_val (a b:Int):F0.cmp_Compare a b=if a < b then -1 else if a>b then 1 else 0:=by
 unfold F0.cmp_Compare
 have e:∀x:Int,F0.cmp_isNaN x=false:=fun x=>by simp [F0.cmp_isNaN]
 simp only [e,Bool.false_eq_true,if_false,Bool.cond_eq_ite,decide_eq_true_eq]
theorem gcmp_lo:loCmp zx:=fun x y=>by
 unfold zx F0.ranges_gathered_1
 rw [cmp_val]
 dsimp only
 repeat' split
 all_goals omega
noncomputable def cfg:Cfg:={ P:=Tryz.prog,fn:=zy.find,ty:=zO.find,keep:=find2 keepTab,inl:=fun K=>memN K [36,38,43,44,60,61,62,63,64,69,70,72,82,87,96,103,108,110,111,112,117,121,122,132,133,134,135,136,137,138,139,144,145,146,147,158,160,161,162,172,190],ext:=fun K=>bif eqb K 16 then some (fun args=>match args with|[]=>some (B true)|_=>none) else none,xinl:=fun K=>bif eqb K 103 then some (sortN 104 zx) else none,glob:=fun _=>none,eqok:=fun t=>(eqTab.find t).isSome,dr:=false,tab:=F1.cfg.tab }
theorem cfg_fn:cfg.fn=zy.find:=rfl
theorem cfg_ty:cfg.ty=zO.find:=rfl
theorem cfg_eqok (t:TypeId):cfg.eqok t=(eqTab.find t).isSome:=rfl
theorem cfgOK:CfgOK cfg where
 ty:=fun _ _ h=>tyTab_ok.find h
 fn:=fun _ _ h=>fnTab_ok.find h
 enter:=fun _ _ h=>enTab_ok.find h
 mixed:=by kernel_rfl
 eqok:=fun t h=>by
  have h1:(eqTab.find t).isSome=true:=h
  cases hf:eqTab.find t with
  |none=>rw [hf] at h1;cases h1
  |some u =>
   have:=eqTab_ok.find hf
   unfold eqB at this
   simp only [Bool.and_eq_true,Bool.not_eq_true'] at this
   refine ⟨this.1.1,this.1.2,fun fs hfs f hm=>?_⟩
   have h2:=this.2
   have hfs':Tryz.prog.underlying t=some (.struct fs):=hfs
   rw [hfs'] at h2
   simp only [List.all_eq_true,bne_iff_ne] at h2
   exact h2 f hm
theorem globOK {M:Mem}:yk cfg M:=fun g d h=>by cases h
theorem ck {S:Sm} {objs:List (Nat × Ob)} {nxt K:Nat} {args:List D} {fn:Func} (h:zy.find K=some fn) (hi:memN K [36,38,43,44,60,61,62,63,64,69,70,72,82,87,96,103,108,110,111,112,117,121,122,132,133,134,135,136,137,138,139,144,145,146,147,158,160,161,162,172,190]=false):zf cfg S objs nxt K args=z8 S objs nxt K args:=by
 simp only [zf,cfg_fn,h]
 rw [show cfg.inl K=memN K [36,38,43,44,60,61,62,63,64,69,70,72,82,87,96,103,108,110,111,112,117,121,122,132,133,134,135,136,137,138,139,144,145,146,147,158,160,161,162,172,190] from rfl,hi]
 rfl
theorem lck2 {S:Sm} {objs:List (Nat × Ob)} {nxt:Nat} {args:List D}:zf cfg S objs nxt 2 args=z8 S objs nxt 2 args:=ck cfn2 rfl
theorem lck3 {S:Sm} {objs:List (Nat × Ob)} {nxt:Nat} {args:List D}:zf cfg S objs nxt 3 args=z8 S objs nxt 3 args:=ck cfn3 rfl
theorem lck4 {S:Sm} {objs:List (Nat × Ob)} {nxt:Nat} {args:List D}:zf cfg S objs nxt 4 args=z8 S objs nxt 4 args:=ck cfn4 rfl
theorem lck5 {S:Sm} {objs:List (Nat × Ob)} {nxt:Nat} {args:List D}:zf cfg S objs nxt 5 args=z8 S objs nxt 5 args:=ck cfn5 rfl
theorem lck6 {S:Sm} {objs:List (Nat × Ob)} {nxt:Nat} {args:List D}:zf cfg S objs nxt 6 args=z8 S objs nxt 6 args:=ck cfn6 rfl
theorem lck7 {S:Sm} {objs:List (Nat × Ob)} {nxt:Nat} {args:List D}:zf cfg S objs nxt 7 args=z8 S objs nxt 7 args:=ck cfn7 rfl
theorem lck8 {S:Sm} {objs:List (Nat × Ob)} {nxt:Nat} {args:List D}:zf cfg S objs nxt 8 args=z8 S objs nxt 8 args:=ck cfn8 rfl
theorem lck9 {S:Sm} {objs:List (Nat × Ob)} {nxt:Nat} {args:List D}:zf cfg S objs nxt 9 args=z8 S objs nxt 9 args:=ck cfn9 rfl
theorem lck10 {S:Sm} {objs:List (Nat × Ob)} {nxt:Nat} {args:List D}:zf cfg S objs nxt 10 args=z8 S objs nxt 10 args:=ck cfn10 rfl
theorem lck11 {S:Sm} {objs:List (Nat × Ob)} {nxt:Nat} {args:List D}:zf cfg S objs nxt 11 args=z8 S objs nxt 11 args:=ck cfn11 rfl
theorem lck12 {S:Sm} {objs:List (Nat × Ob)} {nxt:Nat} {args:List D}:zf cfg S objs nxt 12 args=z8 S objs nxt 12 args:=ck cfn12 rfl
theorem lck13 {S:Sm} {objs:List (Nat × Ob)} {nxt:Nat} {args:List D}:zf cfg S objs nxt 13 args=z8 S objs nxt 13 args:=ck cfn13 rfl
theorem lck14 {S:Sm} {objs:List (Nat × Ob)} {nxt:Nat} {args:List D}:zf cfg S objs nxt 14 args=z8 S objs nxt 14 args:=ck cfn14 rfl
theorem lck15 {S:Sm} {objs:List (Nat × Ob)} {nxt:Nat} {args:List D}:zf cfg S objs nxt 15 args=z8 S objs nxt 15 args:=ck cfn15 rfl
theorem lck16 {S:Sm} {objs:List (Nat × Ob)} {nxt:Nat} {args:List D}:zf cfg S objs nxt 16 args=z8 S objs nxt 16 args:=ck cfn16 rfl
theorem lck17 {S:Sm} {objs:List (Nat × Ob)} {nxt:Nat} {args:List D}:zf cfg S objs nxt 17 args=z8 S objs nxt 17 args:=ck cfn17 rfl
theorem lck18 {S:Sm} {objs:List (Nat × Ob)} {nxt:Nat} {args:List D}:zf cfg S objs nxt 18 args=z8 S objs nxt 18 args:=ck cfn18 rfl
theorem lck19 {S:Sm} {objs:List (Nat × Ob)} {nxt:Nat} {args:List D}:zf cfg S objs nxt 19 args=z8 S objs nxt 19 args:=ck cfn19 rfl
theorem lck20 {S:Sm} {objs:List (Nat × Ob)} {nxt:Nat} {args:List D}:zf cfg S objs nxt 20 args=z8 S objs nxt 20 args:=ck cfn20 rfl
theorem lck21 {S:Sm} {objs:List (Nat × Ob)} {nxt:Nat} {args:List D}:zf cfg S objs nxt 21 args=z8 S objs nxt 21 args:=ck cfn21 rfl
theorem lck22 {S:Sm} {objs:List (Nat × Ob)} {nxt:Nat} {args:List D}:zf cfg S objs nxt 22 args=z8 S objs nxt 22 args:=ck cfn22 rfl
theorem lck23 {S:Sm} {objs:List (Nat × Ob)} {nxt:Nat} {args:List D}:zf cfg S objs nxt 23 args=z8 S objs nxt 23 args:=ck cfn23 rfl
theorem lck24 {S:Sm} {objs:List (Nat × Ob)} {nxt:Nat} {args:List D}:zf cfg S objs nxt 24 args=z8 S objs nxt 24 args:=ck cfn24 rfl
theorem lck25 {S:Sm} {objs:List (Nat × Ob)} {nxt:Nat} {args:List D}:zf cfg S objs nxt 25 args=z8 S objs nxt 25 args:=ck cfn25 rfl
theorem lck26 {S:Sm} {objs:List (Nat × Ob)} {nxt:Nat} {args:List D}:zf cfg S objs nxt 26 args=z8 S objs nxt 26 args:=ck cfn26 rfl
theorem lck27 {S:Sm} {objs:List (Nat × Ob)} {nxt:Nat} {args:List D}:zf cfg S objs nxt 27 args=z8 S objs nxt 27 args:=ck cfn27 rfl
theorem lck28 {S:Sm} {objs:List (Nat × Ob)} {nxt:Nat} {args:List D}:zf cfg S objs nxt 28 args=z8 S objs nxt 28 args:=ck cfn28 rfl
theorem lck29 {S:Sm} {objs:List (Nat × Ob)} {nxt:Nat} {args:List D}:zf cfg S objs nxt 29 args=z8 S objs nxt 29 args:=ck cfn29 rfl
theorem lck30 {S:Sm} {objs:List (Nat × Ob)} {nxt:Nat} {args:List D}:zf cfg S objs nxt 30 args=z8 S objs nxt 30 args:=ck cfn30 rfl
theorem lck31 {S:Sm} {objs:List (Nat × Ob)} {nxt:Nat} {args:List D}:zf cfg S objs nxt 31 args=z8 S objs nxt 31 args:=ck cfn31 rfl
theorem lck32 {S:Sm} {objs:List (Nat × Ob)} {nxt:Nat} {args:List D}:zf cfg S objs nxt 32 args=z8 S objs nxt 32 args:=ck cfn32 rfl
theorem lck33 {S:Sm} {objs:List (Nat × Ob)} {nxt:Nat} {args:List D}:zf cfg S objs nxt 33 args=z8 S objs nxt 33 args:=ck cfn33 rfl
theorem lck34 {S:Sm} {objs:List (Nat × Ob)} {nxt:Nat} {args:List D}:zf cfg S objs nxt 34 args=z8 S objs nxt 34 args:=ck cfn34 rfl
theorem lck35 {S:Sm} {objs:List (Nat × Ob)} {nxt:Nat} {args:List D}:zf cfg S objs nxt 35 args=z8 S objs nxt 35 args:=ck cfn35 rfl
theorem lck37 {S:Sm} {objs:List (Nat × Ob)} {nxt:Nat} {args:List D}:zf cfg S objs nxt 37 args=z8 S objs nxt 37 args:=ck cfn37 rfl
theorem lck39 {S:Sm} {objs:List (Nat × Ob)} {nxt:Nat} {args:List D}:zf cfg S objs nxt 39 args=z8 S objs nxt 39 args:=ck cfn39 rfl
theorem lck40 {S:Sm} {objs:List (Nat × Ob)} {nxt:Nat} {args:List D}:zf cfg S objs nxt 40 args=z8 S objs nxt 40 args:=ck cfn40 rfl
theorem lck41 {S:Sm} {objs:List (Nat × Ob)} {nxt:Nat} {args:List D}:zf cfg S objs nxt 41 args=z8 S objs nxt 41 args:=ck cfn41 rfl
theorem lck42 {S:Sm} {objs:List (Nat × Ob)} {nxt:Nat} {args:List D}:zf cfg S objs nxt 42 args=z8 S objs nxt 42 args:=ck cfn42 rfl
theorem lck45 {S:Sm} {objs:List (Nat × Ob)} {nxt:Nat} {args:List D}:zf cfg S objs nxt 45 args=z8 S objs nxt 45 args:=ck cfn45 rfl
theorem lck46 {S:Sm} {objs:List (Nat × Ob)} {nxt:Nat} {args:List D}:zf cfg S objs nxt 46 args=z8 S objs nxt 46 args:=ck cfn46 rfl
theorem lck47 {S:Sm} {objs:List (Nat × Ob)} {nxt:Nat} {args:List D}:zf cfg S objs nxt 47 args=z8 S objs nxt 47 args:=ck cfn47 rfl
theorem lck48 {S:Sm} {objs:List (Nat × Ob)} {nxt:Nat} {args:List D}:zf cfg S objs nxt 48 args=z8 S objs nxt 48 args:=ck cfn48 rfl
theorem lck49 {S:Sm} {objs:List (Nat × Ob)} {nxt:Nat} {args:List D}:zf cfg S objs nxt 49 args=z8 S objs nxt 49 args:=ck cfn49 rfl
theorem lck50 {S:Sm} {objs:List (Nat × Ob)} {nxt:Nat} {args:List D}:zf cfg S objs nxt 50 args=z8 S objs nxt 50 args:=ck cfn50 rfl
theorem lck51 {S:Sm} {objs:List (Nat × Ob)} {nxt:Nat} {args:List D}:zf cfg S objs nxt 51 args=z8 S objs nxt 51 args:=ck cfn51 rfl
theorem lck52 {S:Sm} {objs:List (Nat × Ob)} {nxt:Nat} {args:List D}:zf cfg S objs nxt 52 args=z8 S objs nxt 52 args:=ck cfn52 rfl
theorem lck53 {S:Sm} {objs:List (Nat × Ob)} {nxt:Nat} {args:List D}:zf cfg S objs nxt 53 args=z8 S objs nxt 53 args:=ck cfn53 rfl
theorem lck54 {S:Sm} {objs:List (Nat × Ob)} {nxt:Nat} {args:List D}:zf cfg S objs nxt 54 args=z8 S objs nxt 54 args:=ck cfn54 rfl
theorem lck55 {S:Sm} {objs:List (Nat × Ob)} {nxt:Nat} {args:List D}:zf cfg S objs nxt 55 args=z8 S objs nxt 55 args:=ck cfn55 rfl
theorem lck56 {S:Sm} {objs:List (Nat × Ob)} {nxt:Nat} {args:List D}:zf cfg S objs nxt 56 args=z8 S objs nxt 56 args:=ck cfn56 rfl
theorem lck57 {S:Sm} {objs:List (Nat × Ob)} {nxt:Nat} {args:List D}:zf cfg S objs nxt 57 args=z8 S objs nxt 57 args:=ck cfn57 rfl
theorem lck58 {S:Sm} {objs:List (Nat × Ob)} {nxt:Nat} {args:List D}:zf cfg S objs nxt 58 args=z8 S objs nxt 58 args:=ck cfn58 rfl
theorem lck59 {S:Sm} {objs:List (Nat × Ob)} {nxt:Nat} {args:List D}:zf cfg S objs nxt 59 args=z8 S objs nxt 59 args:=ck cfn59 rfl
theorem lck65 {S:Sm} {objs:List (Nat × Ob)} {nxt:Nat} {args:List D}:zf cfg S objs nxt 65 args=z8 S objs nxt 65 args:=ck cfn65 rfl
theorem lck66 {S:Sm} {objs:List (Nat × Ob)} {nxt:Nat} {args:List D}:zf cfg S objs nxt 66 args=z8 S objs nxt 66 args:=ck cfn66 rfl
theorem lck67 {S:Sm} {objs:List (Nat × Ob)} {nxt:Nat} {args:List D}:zf cfg S objs nxt 67 args=z8 S objs nxt 67 args:=ck cfn67 rfl
theorem lck68 {S:Sm} {objs:List (Nat × Ob)} {nxt:Nat} {args:List D}:zf cfg S objs nxt 68 args=z8 S objs nxt 68 args:=ck cfn68 rfl
theorem lck71 {S:Sm} {objs:List (Nat × Ob)} {nxt:Nat} {args:List D}:zf cfg S objs nxt 71 args=z8 S objs nxt 71 args:=ck cfn71 rfl
theorem lck73 {S:Sm} {objs:List (Nat × Ob)} {nxt:Nat} {args:List D}:zf cfg S objs nxt 73 args=z8 S objs nxt 73 args:=ck cfn73 rfl
theorem lck74 {S:Sm} {objs:List (Nat × Ob)} {nxt:Nat} {args:List D}:zf cfg S objs nxt 74 args=z8 S objs nxt 74 args:=ck cfn74 rfl
theorem lck75 {S:Sm} {objs:List (Nat × Ob)} {nxt:Nat} {args:List D}:zf cfg S objs nxt 75 args=z8 S objs nxt 75 args:=ck cfn75 rfl
theorem lck76 {S:Sm} {objs:List (Nat × Ob)} {nxt:Nat} {args:List D}:zf cfg S objs nxt 76 args=z8 S objs nxt 76 args:=ck cfn76 rfl
theorem lck77 {S:Sm} {objs:List (Nat × Ob)} {nxt:Nat} {args:List D}:zf cfg S objs nxt 77 args=z8 S objs nxt 77 args:=ck cfn77 rfl
theorem lck78 {S:Sm} {objs:List (Nat × Ob)} {nxt:Nat} {args:List D}:zf cfg S objs nxt 78 args=z8 S objs nxt 78 args:=ck cfn78 rfl
theorem lck79 {S:Sm} {objs:List (Nat × Ob)} {nxt:Nat} {args:List D}:zf cfg S objs nxt 79 args=z8 S objs nxt 79 args:=ck cfn79 rfl
theorem lck80 {S:Sm} {objs:List (Nat × Ob)} {nxt:Nat} {args:List D}:zf cfg S objs nxt 80 args=z8 S objs nxt 80 args:=ck cfn80 rfl
theorem lck81 {S:Sm} {objs:List (Nat × Ob)} {nxt:Nat} {args:List D}:zf cfg S objs nxt 81 args=z8 S objs nxt 81 args:=ck cfn81 rfl
theorem lck83 {S:Sm} {objs:List (Nat × Ob)} {nxt:Nat} {args:List D}:zf cfg S objs nxt 83 args=z8 S objs nxt 83 args:=ck cfn83 rfl
theorem lck84 {S:Sm} {objs:List (Nat × Ob)} {nxt:Nat} {args:List D}:zf cfg S objs nxt 84 args=z8 S objs nxt 84 args:=ck cfn84 rfl
theorem lck85 {S:Sm} {objs:List (Nat × Ob)} {nxt:Nat} {args:List D}:zf cfg S objs nxt 85 args=z8 S objs nxt 85 args:=ck cfn85 rfl
theorem lck86 {S:Sm} {objs:List (Nat × Ob)} {nxt:Nat} {args:List D}:zf cfg S objs nxt 86 args=z8 S objs nxt 86 args:=ck cfn86 rfl
theorem lck88 {S:Sm} {objs:List (Nat × Ob)} {nxt:Nat} {args:List D}:zf cfg S objs nxt 88 args=z8 S objs nxt 88 args:=ck cfn88 rfl
theorem lck89 {S:Sm} {objs:List (Nat × Ob)} {nxt:Nat} {args:List D}:zf cfg S objs nxt 89 args=z8 S objs nxt 89 args:=ck cfn89 rfl
theorem lck90 {S:Sm} {objs:List (Nat × Ob)} {nxt:Nat} {args:List D}:zf cfg S objs nxt 90 args=z8 S objs nxt 90 args:=ck cfn90 rfl
theorem lck91 {S:Sm} {objs:List (Nat × Ob)} {nxt:Nat} {args:List D}:zf cfg S objs nxt 91 args=z8 S objs nxt 91 args:=ck cfn91 rfl
theorem lck92 {S:Sm} {objs:List (Nat × Ob)} {nxt:Nat} {args:List D}:zf cfg S objs nxt 92 args=z8 S objs nxt 92 args:=ck cfn92 rfl
theorem lck93 {S:Sm} {objs:List (Nat × Ob)} {nxt:Nat} {args:List D}:zf cfg S objs nxt 93 args=z8 S objs nxt 93 args:=ck cfn93 rfl
theorem lck94 {S:Sm} {objs:List (Nat × Ob)} {nxt:Nat} {args:List D}:zf cfg S objs nxt 94 args=z8 S objs nxt 94 args:=ck cfn94 rfl
theorem lck95 {S:Sm} {objs:List (Nat × Ob)} {nxt:Nat} {args:List D}:zf cfg S objs nxt 95 args=z8 S objs nxt 95 args:=ck cfn95 rfl
theorem lck97 {S:Sm} {objs:List (Nat × Ob)} {nxt:Nat} {args:List D}:zf cfg S objs nxt 97 args=z8 S objs nxt 97 args:=ck cfn97 rfl
theorem lck98 {S:Sm} {objs:List (Nat × Ob)} {nxt:Nat} {args:List D}:zf cfg S objs nxt 98 args=z8 S objs nxt 98 args:=ck cfn98 rfl
theorem lck99 {S:Sm} {objs:List (Nat × Ob)} {nxt:Nat} {args:List D}:zf cfg S objs nxt 99 args=z8 S objs nxt 99 args:=ck cfn99 rfl
theorem lck100 {S:Sm} {objs:List (Nat × Ob)} {nxt:Nat} {args:List D}:zf cfg S objs nxt 100 args=z8 S objs nxt 100 args:=ck cfn100 rfl
theorem lck101 {S:Sm} {objs:List (Nat × Ob)} {nxt:Nat} {args:List D}:zf cfg S objs nxt 101 args=z8 S objs nxt 101 args:=ck cfn101 rfl
theorem lck102 {S:Sm} {objs:List (Nat × Ob)} {nxt:Nat} {args:List D}:zf cfg S objs nxt 102 args=z8 S objs nxt 102 args:=ck cfn102 rfl
theorem lck104 {S:Sm} {objs:List (Nat × Ob)} {nxt:Nat} {args:List D}:zf cfg S objs nxt 104 args=z8 S objs nxt 104 args:=ck cfn104 rfl
theorem lck105 {S:Sm} {objs:List (Nat × Ob)} {nxt:Nat} {args:List D}:zf cfg S objs nxt 105 args=z8 S objs nxt 105 args:=ck cfn105 rfl
theorem lck106 {S:Sm} {objs:List (Nat × Ob)} {nxt:Nat} {args:List D}:zf cfg S objs nxt 106 args=z8 S objs nxt 106 args:=ck cfn106 rfl
theorem lck107 {S:Sm} {objs:List (Nat × Ob)} {nxt:Nat} {args:List D}:zf cfg S objs nxt 107 args=z8 S objs nxt 107 args:=ck cfn107 rfl
theorem lck109 {S:Sm} {objs:List (Nat × Ob)} {nxt:Nat} {args:List D}:zf cfg S objs nxt 109 args=z8 S objs nxt 109 args:=ck cfn109 rfl
theorem lck113 {S:Sm} {objs:List (Nat × Ob)} {nxt:Nat} {args:List D}:zf cfg S objs nxt 113 args=z8 S objs nxt 113 args:=ck cfn113 rfl
theorem lck114 {S:Sm} {objs:List (Nat × Ob)} {nxt:Nat} {args:List D}:zf cfg S objs nxt 114 args=z8 S objs nxt 114 args:=ck cfn114 rfl
theorem lck115 {S:Sm} {objs:List (Nat × Ob)} {nxt:Nat} {args:List D}:zf cfg S objs nxt 115 args=z8 S objs nxt 115 args:=ck cfn115 rfl
theorem lck116 {S:Sm} {objs:List (Nat × Ob)} {nxt:Nat} {args:List D}:zf cfg S objs nxt 116 args=z8 S objs nxt 116 args:=ck cfn116 rfl
theorem lck118 {S:Sm} {objs:List (Nat × Ob)} {nxt:Nat} {args:List D}:zf cfg S objs nxt 118 args=z8 S objs nxt 118 args:=ck cfn118 rfl
theorem lck119 {S:Sm} {objs:List (Nat × Ob)} {nxt:Nat} {args:List D}:zf cfg S objs nxt 119 args=z8 S objs nxt 119 args:=ck cfn119 rfl
theorem lck120 {S:Sm} {objs:List (Nat × Ob)} {nxt:Nat} {args:List D}:zf cfg S objs nxt 120 args=z8 S objs nxt 120 args:=ck cfn120 rfl
theorem lck123 {S:Sm} {objs:List (Nat × Ob)} {nxt:Nat} {args:List D}:zf cfg S objs nxt 123 args=z8 S objs nxt 123 args:=ck cfn123 rfl
theorem lck124 {S:Sm} {objs:List (Nat × Ob)} {nxt:Nat} {args:List D}:zf cfg S objs nxt 124 args=z8 S objs nxt 124 args:=ck cfn124 rfl
theorem lck125 {S:Sm} {objs:List (Nat × Ob)} {nxt:Nat} {args:List D}:zf cfg S objs nxt 125 args=z8 S objs nxt 125 args:=ck cfn125 rfl
theorem lck126 {S:Sm} {objs:List (Nat × Ob)} {nxt:Nat} {args:List D}:zf cfg S objs nxt 126 args=z8 S objs nxt 126 args:=ck cfn126 rfl
theorem lck127 {S:Sm} {objs:List (Nat × Ob)} {nxt:Nat} {args:List D}:zf cfg S objs nxt 127 args=z8 S objs nxt 127 args:=ck cfn127 rfl
theorem lck128 {S:Sm} {objs:List (Nat × Ob)} {nxt:Nat} {args:List D}:zf cfg S objs nxt 128 args=z8 S objs nxt 128 args:=ck cfn128 rfl
theorem lck129 {S:Sm} {objs:List (Nat × Ob)} {nxt:Nat} {args:List D}:zf cfg S objs nxt 129 args=z8 S objs nxt 129 args:=ck cfn129 rfl
theorem lck130 {S:Sm} {objs:List (Nat × Ob)} {nxt:Nat} {args:List D}:zf cfg S objs nxt 130 args=z8 S objs nxt 130 args:=ck cfn130 rfl
theorem lck131 {S:Sm} {objs:List (Nat × Ob)} {nxt:Nat} {args:List D}:zf cfg S objs nxt 131 args=z8 S objs nxt 131 args:=ck cfn131 rfl
theorem lck140 {S:Sm} {objs:List (Nat × Ob)} {nxt:Nat} {args:List D}:zf cfg S objs nxt 140 args=z8 S objs nxt 140 args:=ck cfn140 rfl
theorem lck141 {S:Sm} {objs:List (Nat × Ob)} {nxt:Nat} {args:List D}:zf cfg S objs nxt 141 args=z8 S objs nxt 141 args:=ck cfn141 rfl
theorem lck142 {S:Sm} {objs:List (Nat × Ob)} {nxt:Nat} {args:List D}:zf cfg S objs nxt 142 args=z8 S objs nxt 142 args:=ck cfn142 rfl
theorem lck143 {S:Sm} {objs:List (Nat × Ob)} {nxt:Nat} {args:List D}:zf cfg S objs nxt 143 args=z8 S objs nxt 143 args:=ck cfn143 rfl
theorem lck148 {S:Sm} {objs:List (Nat × Ob)} {nxt:Nat} {args:List D}:zf cfg S objs nxt 148 args=z8 S objs nxt 148 args:=ck cfn148 rfl
theorem lck149 {S:Sm} {objs:List (Nat × Ob)} {nxt:Nat} {args:List D}:zf cfg S objs nxt 149 args=z8 S objs nxt 149 args:=ck cfn149 rfl
theorem lck151 {S:Sm} {objs:List (Nat × Ob)} {nxt:Nat} {args:List D}:zf cfg S objs nxt 151 args=z8 S objs nxt 151 args:=ck cfn151 rfl
theorem lck153 {S:Sm} {objs:List (Nat × Ob)} {nxt:Nat} {args:List D}:zf cfg S objs nxt 153 args=z8 S objs nxt 153 args:=ck cfn153 rfl
theorem lck154 {S:Sm} {objs:List (Nat × Ob)} {nxt:Nat} {args:List D}:zf cfg S objs nxt 154 args=z8 S objs nxt 154 args:=ck cfn154 rfl
theorem lck155 {S:Sm} {objs:List (Nat × Ob)} {nxt:Nat} {args:List D}:zf cfg S objs nxt 155 args=z8 S objs nxt 155 args:=ck cfn155 rfl
theorem lck156 {S:Sm} {objs:List (Nat × Ob)} {nxt:Nat} {args:List D}:zf cfg S objs nxt 156 args=z8 S objs nxt 156 args:=ck cfn156 rfl
theorem lck157 {S:Sm} {objs:List (Nat × Ob)} {nxt:Nat} {args:List D}:zf cfg S objs nxt 157 args=z8 S objs nxt 157 args:=ck cfn157 rfl
theorem lck159 {S:Sm} {objs:List (Nat × Ob)} {nxt:Nat} {args:List D}:zf cfg S objs nxt 159 args=z8 S objs nxt 159 args:=ck cfn159 rfl
theorem lck163 {S:Sm} {objs:List (Nat × Ob)} {nxt:Nat} {args:List D}:zf cfg S objs nxt 163 args=z8 S objs nxt 163 args:=ck cfn163 rfl
theorem lck164 {S:Sm} {objs:List (Nat × Ob)} {nxt:Nat} {args:List D}:zf cfg S objs nxt 164 args=z8 S objs nxt 164 args:=ck cfn164 rfl
theorem lck165 {S:Sm} {objs:List (Nat × Ob)} {nxt:Nat} {args:List D}:zf cfg S objs nxt 165 args=z8 S objs nxt 165 args:=ck cfn165 rfl
theorem lck166 {S:Sm} {objs:List (Nat × Ob)} {nxt:Nat} {args:List D}:zf cfg S objs nxt 166 args=z8 S objs nxt 166 args:=ck cfn166 rfl
theorem lck167 {S:Sm} {objs:List (Nat × Ob)} {nxt:Nat} {args:List D}:zf cfg S objs nxt 167 args=z8 S objs nxt 167 args:=ck cfn167 rfl
theorem lck169 {S:Sm} {objs:List (Nat × Ob)} {nxt:Nat} {args:List D}:zf cfg S objs nxt 169 args=z8 S objs nxt 169 args:=ck cfn169 rfl
theorem lck170 {S:Sm} {objs:List (Nat × Ob)} {nxt:Nat} {args:List D}:zf cfg S objs nxt 170 args=z8 S objs nxt 170 args:=ck cfn170 rfl
theorem lck171 {S:Sm} {objs:List (Nat × Ob)} {nxt:Nat} {args:List D}:zf cfg S objs nxt 171 args=z8 S objs nxt 171 args:=ck cfn171 rfl
theorem lck173 {S:Sm} {objs:List (Nat × Ob)} {nxt:Nat} {args:List D}:zf cfg S objs nxt 173 args=z8 S objs nxt 173 args:=ck cfn173 rfl
theorem lck174 {S:Sm} {objs:List (Nat × Ob)} {nxt:Nat} {args:List D}:zf cfg S objs nxt 174 args=z8 S objs nxt 174 args:=ck cfn174 rfl
theorem lck204 {S:Sm} {objs:List (Nat × Ob)} {nxt:Nat} {args:List D}:zf cfg S objs nxt 204 args=z8 S objs nxt 204 args:=ck cfn204 rfl
set_option linter.defProp false
def cks:=(Ai (Ai (Ai (Ai (Ai (Ai (Ai @lck2 @lck3) (Ai @lck4 @lck5)) (Ai (Ai @lck6 @lck7) (Ai @lck8 @lck9))) (Ai (Ai (Ai @lck10 @lck11) (Ai @lck12 @lck13)) (Ai (Ai @lck14 @lck15) (Ai @lck16 @lck17)))) (Ai (Ai (Ai (Ai @lck18 @lck19) (Ai @lck20 @lck21)) (Ai (Ai @lck22 @lck23) (Ai @lck24 @lck25))) (Ai (Ai (Ai @lck26 @lck27) (Ai @lck28 @lck29)) (Ai (Ai @lck30 @lck31) (Ai @lck32 @lck33))))) (Ai (Ai (Ai (Ai (Ai @lck34 @lck35) (Ai @lck37 @lck39)) (Ai (Ai @lck40 @lck41) (Ai @lck42 @lck45))) (Ai (Ai (Ai @lck46 @lck47) (Ai @lck48 @lck49)) (Ai (Ai @lck50 @lck51) (Ai @lck52 @lck53)))) (Ai (Ai (Ai (Ai @lck54 @lck55) (Ai @lck56 @lck57)) (Ai (Ai @lck58 @lck59) (Ai @lck65 @lck66))) (Ai (Ai (Ai @lck67 @lck68) (Ai @lck71 @lck73)) (Ai (Ai @lck74 @lck75) (Ai @lck76 (Ai @lck77 @lck78))))))) (Ai (Ai (Ai (Ai (Ai (Ai @lck79 @lck80) (Ai @lck81 @lck83)) (Ai (Ai @lck84 @lck85) (Ai @lck86 @lck88))) (Ai (Ai (Ai @lck89 @lck90) (Ai @lck91 @lck92)) (Ai (Ai @lck93 @lck94) (Ai @lck95 @lck97)))) (Ai (Ai (Ai (Ai @lck98 @lck99) (Ai @lck100 @lck101)) (Ai (Ai @lck102 @lck104) (Ai @lck105 @lck106))) (Ai (Ai (Ai @lck107 @lck109) (Ai @lck113 @lck114)) (Ai (Ai @lck115 @lck116) (Ai @lck118 (Ai @lck119 @lck120)))))) (Ai (Ai (Ai (Ai (Ai @lck123 @lck124) (Ai @lck125 @lck126)) (Ai (Ai @lck127 @lck128) (Ai @lck129 @lck130))) (Ai (Ai (Ai @lck131 @lck140) (Ai @lck141 @lck142)) (Ai (Ai @lck143 @lck148) (Ai @lck149 @lck151)))) (Ai (Ai (Ai (Ai @lck153 @lck154) (Ai @lck155 @lck156)) (Ai (Ai @lck157 @lck159) (Ai @lck163 @lck164))) (Ai (Ai (Ai @lck165 @lck166) (Ai @lck167 @lck169)) (Ai (Ai @lck170 @lck171) (Ai @lck173 (Ai @lck174 @lck204))))))))
attribute [go_sem] tys cks cfg_ty cfg_eqok zs_false
theorem pure_up {K:FuncId} {args:List D} {d:D} (h:PureOK F1.cfg K args d):PureOK cfg K args d:=fun M w vs h1 _ h3 h4=>h M w vs h1 F1.globOK h3 h4
theorem extOK:ExtOK cfg where
 pure:=fun K g args d h hg=>by
  have h':(bif eqb K 16 then some (fun args=>match args with|[]=>some (B true)|_=>none) else none:Option (List D→Option D))=some g:=h
  cases hk:eqb K 16 with
  |false=>rw [hk] at h';cases h'
  |true =>
   rw [hk] at h'
   have:=yl.1 hk
   subst this
   cases h'
   cases args with
   |nil=>cases hg;exact pure_up (lim_sound F1.cfgOK F1.extOK F1.sane_ok)
   |cons a r=>cases hg
 inl:=fun K g args objs nxt d objs' nxt' h hg=>by
  have h':(bif eqb K 103 then some (sortN 104 zx) else none:Option (List D→List (Nat × Ob)→Nat→Option (D × List (Nat × Ob) × Nat)))=some g:=h
  cases hk:eqb K 103 with
  |false=>rw [hk] at h';cases h'
  |true =>
   rw [hk] at h'
   have:=yl.1 hk
   subst this
   cases h'
   exact sortN_ok (C:=cfg) Tryz.sortP cfgOK Tryz.isAgg25 Tryz.sizeOf25 gcmp_lo.swo (g:=104) (fg:=Tryz.f104) cfn104 (fun x y=>pureQ_of (C0:=F0.cfg) rfl (fun _=>F0.globOK) (fun _ _ _ q=>by cases q) (lim_sound F0.cfgOK F0.extOK (F0.T_ranges_gathered_1 ⟨x.1,x.2⟩ ⟨y.1,y.2⟩)))
    (fun nxt=>inl_of_pure (pure_up (lim_sound F1.cfgOK F1.extOK F1.nil_ok)) (fun M m vs h=>by simpa only [zI,Rep] using h) nxt) hg
theorem sane_ok:(lim cfg).pure 16 []=some (B true):=pure_of rfl
end Go.VS

namespace Go.VS
open List (length_append length_cons length_nil)
open Go Go.Proofs
def ranges_in (n:Int) (lo:Int) (hi:Int):Bool :=
 bif decide (n ≥ lo) then
  bif decide (n≤hi) then
   true
  else
   false
 else
  false

theorem T_ranges_in (n:Int) (lo:Int) (hi:Int):(lim cfg).pure 80 [I n,I lo,I hi]=some (B (ranges_in n lo hi)):=by
 unfold ranges_in
 cases h1:decide (n ≥ lo) with
 |true =>
  have g1:=of_decide_eq_true h1
  cases h2:decide (n≤hi) with
  |true =>
   have g2:=of_decide_eq_true h2
   exact zp [.dec true,.dec true] (Ai h2 (Ai h1 trivial)) (by kernel_rfl)
  |false =>
   have g2:=of_decide_eq_false h2
   exact zp [.dec true,.dec false] (Ai h2 (Ai h1 trivial)) (by kernel_rfl)
 |false =>
  have g1:=of_decide_eq_false h1
  exact zp [.dec false] (Ai h1 trivial) (by kernel_rfl)

def zq (n:Int):Bool :=
 bif (ranges_in n (-1099511627776) 1099511627776) then
  true
 else
  false

theorem zA (n:Int):(lim cfg).pure 81 [I n]=some (B (zq n)):=by
 unfold zq
 cases h1:(ranges_in n (-1099511627776) 1099511627776) with
 |true =>
  exact zp [.pure (B (ranges_in n (-1099511627776) 1099511627776)),.dec true] (Ai h1 (Ai (T_ranges_in n (-1099511627776) 1099511627776) trivial)) (by kernel_rfl)
 |false =>
  exact zp [.pure (B (ranges_in n (-1099511627776) 1099511627776)),.dec false] (Ai h1 (Ai (T_ranges_in n (-1099511627776) 1099511627776) trivial)) (by kernel_rfl)

noncomputable def lp47_4:Code:=subC [1,1,0,1,0,0] (bodyC Tryz.f47)

inductive LR_ranges_Check_4 where
 |x0
 |x1 (i4:Nat) (x4:Sn)
 |x2 (i4:Nat) (x4:Sn)
 |x3 (i4:Nat) (x4:Sn)
 |x4 (i4:Nat) (x4:Sn)
instance:Inhabited LR_ranges_Check_4:=⟨.x0⟩
def ranges_Check_4 (r:GS Sn):List Sn→Nat→LR_ranges_Check_4
 |[],i4=>.x0
 |x4::xm,i4 =>
  bif decide (x4.lo>x4.hi) then
   .x1 i4 x4
  else
   bif (zq x4.lo) then
    bif (zq x4.hi) then
     bif decide ((i4:Int)>0) then
      bif decide ((w64 (((GS.at r (w64 ((i4:Int) - 1))).hi)+1)) ≥ x4.lo) then
       .x2 i4 x4
      else
       ranges_Check_4 r xm (i4+1)
     else
      ranges_Check_4 r xm (i4+1)
    else
     .x3 i4 x4
   else
    .x4 i4 x4
def lr_ranges_Check_4 (r:GS Sn):LR_ranges_Check_4→Exit × St
 |.x0=>((.exit 0),⟨49,[(11,B false),(0,.sl r.nl (r.l.map Sn.D) (zsl r.nl 2) none),(8,.sl r.nl (r.l.map Sn.D) (zsl r.nl 2) none),(9,I (r.l.length:Int)),(10,I (r.l.length:Int))],[],0,0⟩)
 |.x1 i4 x4=>(.ret,⟨49,[(2,I 20),(47,B true),(46,.tup []),(45,.tup []),(44,.tup []),(43,.tup []),(42,.tup []),(41,.tup []),(40,.tup []),(39,.tup []),(38,.tup []),(37,.tup []),(36,.tup []),(35,.tup []),(34,.tup []),(33,.tup []),(32,B true),(31,B true),(30,.tup []),(29,.tup []),(28,.tup []),(27,.tup []),(26,B true),(25,B true),(24,.tup []),(23,.tup []),(22,.tup []),(21,.tup []),(20,B true),(19,B true),(18,I x4.hi),(17,.lref 0 0 2 1),(16,I x4.lo),(15,.lref 0 0 2 0),(3,I (i4:Int)),(4,.lref 0 0 2 0),(14,.agg [I x4.lo,I x4.hi]),(13,.ptr (.agg [I x4.lo,I x4.hi])),(12,I (i4:Int)),(11,B true),(0,.sl r.nl (r.l.map Sn.D) (zsl r.nl 2) none),(8,.sl r.nl (r.l.map Sn.D) (zsl r.nl 2) none),(9,I (r.l.length:Int)),(10,I (i4:Int))],[(0,⟨[.agg [I x4.lo,I x4.hi]],2,false⟩)],1,0⟩)
 |.x2 i4 x4=>(.ret,⟨49,[(2,I 20),(47,B true),(46,B true),(45,B true),(44,I x4.lo),(43,.lref 0 0 2 0),(42,I (w64 (((GS.at r (w64 ((i4:Int) - 1))).hi)+1))),(41,I ((GS.at r (w64 ((i4:Int) - 1))).hi)),(40,.ptr (I ((GS.at r (w64 ((i4:Int) - 1))).hi))),(39,.ptr (.agg [I ((GS.at r (w64 ((i4:Int) - 1))).lo),I ((GS.at r (w64 ((i4:Int) - 1))).hi)])),(38,I (w64 ((i4:Int) - 1))),(37,I (i4:Int)),(36,.sl r.nl (r.l.map Sn.D) (zsl r.nl 2) none),(35,B true),(34,B true),(33,I (i4:Int)),(32,B false),(31,B false),(30,B false),(29,B true),(28,I x4.hi),(27,.lref 0 0 2 1),(26,B false),(25,B false),(24,B false),(23,B true),(22,I x4.lo),(21,.lref 0 0 2 0),(20,B false),(19,B false),(18,I x4.hi),(17,.lref 0 0 2 1),(16,I x4.lo),(15,.lref 0 0 2 0),(3,I (i4:Int)),(4,.lref 0 0 2 0),(14,.agg [I x4.lo,I x4.hi]),(13,.ptr (.agg [I x4.lo,I x4.hi])),(12,I (i4:Int)),(11,B true),(0,.sl r.nl (r.l.map Sn.D) (zsl r.nl 2) none),(8,.sl r.nl (r.l.map Sn.D) (zsl r.nl 2) none),(9,I (r.l.length:Int)),(10,I (i4:Int))],[(0,⟨[.agg [I x4.lo,I x4.hi]],2,false⟩)],1,0⟩)
 |.x3 i4 x4=>(.ret,⟨49,[(2,I 20),(47,B true),(46,.tup []),(45,.tup []),(44,.tup []),(43,.tup []),(42,.tup []),(41,.tup []),(40,.tup []),(39,.tup []),(38,.tup []),(37,.tup []),(36,.tup []),(35,.tup []),(34,.tup []),(33,.tup []),(32,B true),(31,B true),(30,B true),(29,B false),(28,I x4.hi),(27,.lref 0 0 2 1),(26,B false),(25,B false),(24,B false),(23,B true),(22,I x4.lo),(21,.lref 0 0 2 0),(20,B false),(19,B false),(18,I x4.hi),(17,.lref 0 0 2 1),(16,I x4.lo),(15,.lref 0 0 2 0),(3,I (i4:Int)),(4,.lref 0 0 2 0),(14,.agg [I x4.lo,I x4.hi]),(13,.ptr (.agg [I x4.lo,I x4.hi])),(12,I (i4:Int)),(11,B true),(0,.sl r.nl (r.l.map Sn.D) (zsl r.nl 2) none),(8,.sl r.nl (r.l.map Sn.D) (zsl r.nl 2) none),(9,I (r.l.length:Int)),(10,I (i4:Int))],[(0,⟨[.agg [I x4.lo,I x4.hi]],2,false⟩)],1,0⟩)
 |.x4 i4 x4=>(.ret,⟨49,[(2,I 20),(47,B true),(46,.tup []),(45,.tup []),(44,.tup []),(43,.tup []),(42,.tup []),(41,.tup []),(40,.tup []),(39,.tup []),(38,.tup []),(37,.tup []),(36,.tup []),(35,.tup []),(34,.tup []),(33,.tup []),(32,B true),(31,B true),(30,.tup []),(29,.tup []),(28,.tup []),(27,.tup []),(26,B true),(25,B true),(24,B true),(23,B false),(22,I x4.lo),(21,.lref 0 0 2 0),(20,B false),(19,B false),(18,I x4.hi),(17,.lref 0 0 2 1),(16,I x4.lo),(15,.lref 0 0 2 0),(3,I (i4:Int)),(4,.lref 0 0 2 0),(14,.agg [I x4.lo,I x4.hi]),(13,.ptr (.agg [I x4.lo,I x4.hi])),(12,I (i4:Int)),(11,B true),(0,.sl r.nl (r.l.map Sn.D) (zsl r.nl 2) none),(8,.sl r.nl (r.l.map Sn.D) (zsl r.nl 2) none),(9,I (r.l.length:Int)),(10,I (i4:Int))],[(0,⟨[.agg [I x4.lo,I x4.hi]],2,false⟩)],1,0⟩)
def ranges_Check_4_l_o1 (x4:Sn):List Ora:=[.dec true,.el (.agg [I x4.lo,I x4.hi]),.dec false,.pure (B (zq x4.lo)),.dec true,.pure (B (zq x4.hi))]
def ranges_Check_4_l_o2 (r:GS Sn) (i4:Nat):List Ora:=[.dec true,.dec true,.el (.agg [I ((GS.at r (w64 ((i4:Int) - 1))).lo),I ((GS.at r (w64 ((i4:Int) - 1))).hi)])]
theorem lp_ranges_Check_4 (r:GS Sn):∀(xm:List Sn) (i4:Nat) (hd4:r.l.drop i4=xm) (hi4:i4≤r.l.length) (hL4:r.l.length≤9223372036854775807),(lim cfg).loop 47 lp47_4 ⟨49,[(0,.sl r.nl (r.l.map Sn.D) (zsl r.nl 2) none),(8,.sl r.nl (r.l.map Sn.D) (zsl r.nl 2) none),(9,I (r.l.length:Int)),(10,I (i4:Int))],[],0,0⟩=some (lr_ranges_Check_4 r (ranges_Check_4 r xm i4)):=by
 intro xm
 induction xm with
 |nil =>
  intro i4 hd4 hi4 hL4
  unfold ranges_Check_4
  obtain rfl:i4=r.l.length:=zW hd4 hi4
  exact zD [.dec false] (Ai (lt_no hd4) trivial) (by kernel_rfl)
 |cons x4 xm ih =>
  intro i4 hd4 hi4 hL4
  have hlt4:=zg hd4
  unfold ranges_Check_4
  have p1:=(zS (s:=r) (f:=Sn.D) (k:=2) hd4)
  cases h7:decide (x4.lo>x4.hi) with
  |true =>
   have g7:=of_decide_eq_true h7
   exact zD [.dec true,.el (.agg [I x4.lo,I x4.hi]),.dec true] (Ai h7 (Ai p1 (Ai (zT hd4) trivial))) (by kernel_rfl)
  |false =>
   have g7:=of_decide_eq_false h7
   cases h8:(zq x4.lo) with
   |true =>
    cases h9:(zq x4.hi) with
    |true =>
     cases h10:decide ((i4:Int)>0) with
     |true =>
      have g10:=of_decide_eq_true h10
      have p2:=(el_in (s:=r) (f:=Sn.D) (k:=2) (i:=w64 ((i4:Int) - 1)) (by simp only [length_append,length_cons,length_nil,zd] at *<;>omega) (by simp only [length_append,length_cons,length_nil,zd] at *<;>omega))
      cases h11:decide ((w64 (((GS.at r (w64 ((i4:Int) - 1))).hi)+1)) ≥ x4.lo) with
      |true =>
       have g11:=of_decide_eq_true h11
       exact zD ((ranges_Check_4_l_o1 x4)++((ranges_Check_4_l_o2 r i4)++[.dec true])) (Ai h11 (Ai p2 (Ai h10 (Ai h9 (Ai (zA x4.hi) (Ai h8 (Ai (zA x4.lo) (Ai h7 (Ai p1 (Ai (zT hd4) trivial)))))))))) (by kernel_rfl)
      |false =>
       have g11:=of_decide_eq_false h11
       exact po_turn ((ranges_Check_4_l_o1 x4)++((ranges_Check_4_l_o2 r i4)++[.dec false,.rw 48 (I ((i4+1:Nat):Int))])) (Ai (zM (i:=i4) (by have:=zg hd4;omega)) (Ai h11 (Ai p2 (Ai h10 (Ai h9 (Ai (zA x4.hi) (Ai h8 (Ai (zA x4.lo) (Ai h7 (Ai p1 (Ai (zT hd4) trivial))))))))))) (ih (i4+1) (zi hd4) (zg hd4) (by omega)) (by kernel_rfl)
     |false =>
      have g10:=of_decide_eq_false h10
      exact po_turn ((ranges_Check_4_l_o1 x4)++[.dec true,.dec false,.rw 48 (I ((i4+1:Nat):Int))]) (Ai (zM (i:=i4) (by have:=zg hd4;omega)) (Ai h10 (Ai h9 (Ai (zA x4.hi) (Ai h8 (Ai (zA x4.lo) (Ai h7 (Ai p1 (Ai (zT hd4) trivial))))))))) (ih (i4+1) (zi hd4) (zg hd4) (by omega)) (by kernel_rfl)
    |false =>
     exact zD ((ranges_Check_4_l_o1 x4)++[.dec false]) (Ai h9 (Ai (zA x4.hi) (Ai h8 (Ai (zA x4.lo) (Ai h7 (Ai p1 (Ai (zT hd4) trivial))))))) (by kernel_rfl)
   |false =>
    exact zD [.dec true,.el (.agg [I x4.lo,I x4.hi]),.dec false,.pure (B (zq x4.lo)),.dec false] (Ai h8 (Ai (zA x4.lo) (Ai h7 (Ai p1 (Ai (zT hd4) trivial))))) (by kernel_rfl)

def yc (r:GS Sn):Int :=
 bif decide ((r.l.length:Int)>64) then
  20
 else
  match ranges_Check_4 r r.l 0 with
  |.x0 =>
   0
  |.x1 i4 x4 =>
   20
  |.x2 i4 x4 =>
   20
  |.x3 i4 x4 =>
   20
  |.x4 i4 x4 =>
   20

def sd0 (r:GS Sn):St:=⟨49,[(11,B false),(0,.sl r.nl (r.l.map Sn.D) (zsl r.nl 2) none),(8,.sl r.nl (r.l.map Sn.D) (zsl r.nl 2) none),(9,I (r.l.length:Int)),(10,I (r.l.length:Int))],[],0,0⟩

def sd1 (r:GS Sn) (i4:Nat) (x4:Sn):St:=⟨49,[(2,I 20),(47,B true),(46,.tup []),(45,.tup []),(44,.tup []),(43,.tup []),(42,.tup []),(41,.tup []),(40,.tup []),(39,.tup []),(38,.tup []),(37,.tup []),(36,.tup []),(35,.tup []),(34,.tup []),(33,.tup []),(32,B true),(31,B true),(30,.tup []),(29,.tup []),(28,.tup []),(27,.tup []),(26,B true),(25,B true),(24,.tup []),(23,.tup []),(22,.tup []),(21,.tup []),(20,B true),(19,B true),(18,I x4.hi),(17,.lref 0 0 2 1),(16,I x4.lo),(15,.lref 0 0 2 0),(3,I (i4:Int)),(4,.lref 0 0 2 0),(14,.agg [I x4.lo,I x4.hi]),(13,.ptr (.agg [I x4.lo,I x4.hi])),(12,I (i4:Int)),(11,B true),(0,.sl r.nl (r.l.map Sn.D) (zsl r.nl 2) none),(8,.sl r.nl (r.l.map Sn.D) (zsl r.nl 2) none),(9,I (r.l.length:Int)),(10,I (i4:Int))],[(0,⟨[.agg [I x4.lo,I x4.hi]],2,false⟩)],1,0⟩

def sd2 (r:GS Sn) (i4:Nat) (x4:Sn):St:=⟨49,[(2,I 20),(47,B true),(46,B true),(45,B true),(44,I x4.lo),(43,.lref 0 0 2 0),(42,I (w64 (((GS.at r (w64 ((i4:Int) - 1))).hi)+1))),(41,I ((GS.at r (w64 ((i4:Int) - 1))).hi)),(40,.ptr (I ((GS.at r (w64 ((i4:Int) - 1))).hi))),(39,.ptr (.agg [I ((GS.at r (w64 ((i4:Int) - 1))).lo),I ((GS.at r (w64 ((i4:Int) - 1))).hi)])),(38,I (w64 ((i4:Int) - 1))),(37,I (i4:Int)),(36,.sl r.nl (r.l.map Sn.D) (zsl r.nl 2) none),(35,B true),(34,B true),(33,I (i4:Int)),(32,B false),(31,B false),(30,B false),(29,B true),(28,I x4.hi),(27,.lref 0 0 2 1),(26,B false),(25,B false),(24,B false),(23,B true),(22,I x4.lo),(21,.lref 0 0 2 0),(20,B false),(19,B false),(18,I x4.hi),(17,.lref 0 0 2 1),(16,I x4.lo),(15,.lref 0 0 2 0),(3,I (i4:Int)),(4,.lref 0 0 2 0),(14,.agg [I x4.lo,I x4.hi]),(13,.ptr (.agg [I x4.lo,I x4.hi])),(12,I (i4:Int)),(11,B true),(0,.sl r.nl (r.l.map Sn.D) (zsl r.nl 2) none),(8,.sl r.nl (r.l.map Sn.D) (zsl r.nl 2) none),(9,I (r.l.length:Int)),(10,I (i4:Int))],[(0,⟨[.agg [I x4.lo,I x4.hi]],2,false⟩)],1,0⟩

def sd3 (r:GS Sn) (i4:Nat) (x4:Sn):St:=⟨49,[(2,I 20),(47,B true),(46,.tup []),(45,.tup []),(44,.tup []),(43,.tup []),(42,.tup []),(41,.tup []),(40,.tup []),(39,.tup []),(38,.tup []),(37,.tup []),(36,.tup []),(35,.tup []),(34,.tup []),(33,.tup []),(32,B true),(31,B true),(30,B true),(29,B false),(28,I x4.hi),(27,.lref 0 0 2 1),(26,B false),(25,B false),(24,B false),(23,B true),(22,I x4.lo),(21,.lref 0 0 2 0),(20,B false),(19,B false),(18,I x4.hi),(17,.lref 0 0 2 1),(16,I x4.lo),(15,.lref 0 0 2 0),(3,I (i4:Int)),(4,.lref 0 0 2 0),(14,.agg [I x4.lo,I x4.hi]),(13,.ptr (.agg [I x4.lo,I x4.hi])),(12,I (i4:Int)),(11,B true),(0,.sl r.nl (r.l.map Sn.D) (zsl r.nl 2) none),(8,.sl r.nl (r.l.map Sn.D) (zsl r.nl 2) none),(9,I (r.l.length:Int)),(10,I (i4:Int))],[(0,⟨[.agg [I x4.lo,I x4.hi]],2,false⟩)],1,0⟩

def sd4 (r:GS Sn) (i4:Nat) (x4:Sn):St:=⟨49,[(2,I 20),(47,B true),(46,.tup []),(45,.tup []),(44,.tup []),(43,.tup []),(42,.tup []),(41,.tup []),(40,.tup []),(39,.tup []),(38,.tup []),(37,.tup []),(36,.tup []),(35,.tup []),(34,.tup []),(33,.tup []),(32,B true),(31,B true),(30,.tup []),(29,.tup []),(28,.tup []),(27,.tup []),(26,B true),(25,B true),(24,B true),(23,B false),(22,I x4.lo),(21,.lref 0 0 2 0),(20,B false),(19,B false),(18,I x4.hi),(17,.lref 0 0 2 1),(16,I x4.lo),(15,.lref 0 0 2 0),(3,I (i4:Int)),(4,.lref 0 0 2 0),(14,.agg [I x4.lo,I x4.hi]),(13,.ptr (.agg [I x4.lo,I x4.hi])),(12,I (i4:Int)),(11,B true),(0,.sl r.nl (r.l.map Sn.D) (zsl r.nl 2) none),(8,.sl r.nl (r.l.map Sn.D) (zsl r.nl 2) none),(9,I (r.l.length:Int)),(10,I (i4:Int))],[(0,⟨[.agg [I x4.lo,I x4.hi]],2,false⟩)],1,0⟩

theorem T_ranges_Check (r:GS Sn) (hL_r:r.l.length≤9223372036854775807):(lim cfg).pure 47 [GS.D Sn.D 2 r]=some (I (yc r)):=by
 unfold yc
 cases h1:decide ((r.l.length:Int)>64) with
 |true =>
  have g1:=of_decide_eq_true h1
  exact zp [.rw 6 (I (r.l.length:Int)),.dec true] (Ai h1 (Ai (zk Sn.D r) trivial)) (by kernel_rfl)
 |false =>
  have g1:=of_decide_eq_false h1
  cases h12:ranges_Check_4 r r.l 0 with
  |x0 =>
   try dsimp only
   exact zp [.rw 6 (I (r.l.length:Int)),.dec false,.rw 9 (I (r.l.length:Int)),.loop (.exit 0) (sd0 r)] (Ai (y8 (q:=lr_ranges_Check_4 r) (lp_ranges_Check_4 r r.l 0 (List.drop_zero) (Nat.zero_le _) (by omega)) h12) (Ai (zk Sn.D r) (Ai h1 (Ai (zk Sn.D r) trivial)))) (by kernel_rfl)
  |x1 i4 x4 =>
   try dsimp only
   exact zp [.rw 6 (I (r.l.length:Int)),.dec false,.rw 9 (I (r.l.length:Int)),.loop .ret (sd1 r i4 x4)] (Ai (y8 (q:=lr_ranges_Check_4 r) (lp_ranges_Check_4 r r.l 0 (List.drop_zero) (Nat.zero_le _) (by omega)) h12) (Ai (zk Sn.D r) (Ai h1 (Ai (zk Sn.D r) trivial)))) (by kernel_rfl)
  |x2 i4 x4 =>
   try dsimp only
   exact zp [.rw 6 (I (r.l.length:Int)),.dec false,.rw 9 (I (r.l.length:Int)),.loop .ret (sd2 r i4 x4)] (Ai (y8 (q:=lr_ranges_Check_4 r) (lp_ranges_Check_4 r r.l 0 (List.drop_zero) (Nat.zero_le _) (by omega)) h12) (Ai (zk Sn.D r) (Ai h1 (Ai (zk Sn.D r) trivial)))) (by kernel_rfl)
  |x3 i4 x4 =>
   try dsimp only
   exact zp [.rw 6 (I (r.l.length:Int)),.dec false,.rw 9 (I (r.l.length:Int)),.loop .ret (sd3 r i4 x4)] (Ai (y8 (q:=lr_ranges_Check_4 r) (lp_ranges_Check_4 r r.l 0 (List.drop_zero) (Nat.zero_le _) (by omega)) h12) (Ai (zk Sn.D r) (Ai h1 (Ai (zk Sn.D r) trivial)))) (by kernel_rfl)
  |x4 i4 x4 =>
   try dsimp only
   exact zp [.rw 6 (I (r.l.length:Int)),.dec false,.rw 9 (I (r.l.length:Int)),.loop .ret (sd4 r i4 x4)] (Ai (y8 (q:=lr_ranges_Check_4 r) (lp_ranges_Check_4 r r.l 0 (List.drop_zero) (Nat.zero_le _) (by omega)) h12) (Ai (zk Sn.D r) (Ai h1 (Ai (zk Sn.D r) trivial)))) (by kernel_rfl)

theorem zF {a b:GS Sn} {n:Nat} (ha:a.l.length≤n) (hb:b.l.length≤n):∀r∈(GS.some [a,b]).l,r.l.length≤n:=by
 intro r hr
 simp only [GS.some_l,List.mem_cons,List.not_mem_nil,or_false] at hr
 rcases hr with rfl|rfl
 ·exact ha
 ·exact hb

noncomputable def lp86_2:Code:=subC [1,0,1,0,0] (bodyC Tryz.f86)

inductive LR_ranges_check_2 where
 |x0
 |x1 (i2:Nat) (x2:GS Sn)
instance:Inhabited LR_ranges_check_2:=⟨.x0⟩
def ranges_check_2:List (GS Sn)→Nat→LR_ranges_check_2
 |[],i2=>.x0
 |x2::rest2,i2 =>
  bif ((yc x2) != 0) then
   .x1 i2 x2
  else
   ranges_check_2 rest2 (i2+1)
def lr_ranges_check_2 (l:GS (GS Sn)):LR_ranges_check_2→Exit × St
 |.x0=>((.exit 0),⟨18,[(9,B false),(6,.sl l.nl (l.l.map (GS.D Sn.D 2)) (zsl l.nl 1) none),(7,I (l.l.length:Int)),(8,I (l.l.length:Int))],[],0,0⟩)
 |.x1 i2 x2=>(.ret,⟨18,[(2,I (yc x2)),(16,I (yc x2)),(15,B true),(14,I (yc x2)),(5,I (yc x2)),(13,I (yc x2)),(12,.sl x2.nl (x2.l.map Sn.D) (zsl x2.nl 2) none),(4,.sl x2.nl (x2.l.map Sn.D) (zsl x2.nl 2) none),(11,.sl x2.nl (x2.l.map Sn.D) (zsl x2.nl 2) none),(10,.ptr (.sl x2.nl (x2.l.map Sn.D) (zsl x2.nl 2) none)),(9,B true),(6,.sl l.nl (l.l.map (GS.D Sn.D 2)) (zsl l.nl 1) none),(7,I (l.l.length:Int)),(8,I (i2:Int))],[],0,0⟩)
theorem lp_ranges_check_2 (l:GS (GS Sn)):∀(rest2:List (GS Sn)) (i2:Nat) (hd2:l.l.drop i2=rest2) (hi2:i2≤l.l.length) (hB:∀r∈l.l,r.l.length≤9223372036854775807) (hL2:l.l.length≤9223372036854775807),(lim cfg).loop 86 lp86_2 ⟨18,[(6,.sl l.nl (l.l.map (GS.D Sn.D 2)) (zsl l.nl 1) none),(7,I (l.l.length:Int)),(8,I (i2:Int))],[],0,0⟩=some (lr_ranges_check_2 l (ranges_check_2 rest2 i2)):=by
 intro rest2
 induction rest2 with
 |nil =>
  intro i2 hd2 hi2 hB hL2
  unfold ranges_check_2
  obtain rfl:i2=l.l.length:=zW hd2 hi2
  exact zD [.dec false] (Ai (lt_no hd2) trivial) (by kernel_rfl)
 |cons x2 rest2 ih =>
  intro i2 hd2 hi2 hB hL2
  have hlt2:=zg hd2
  have hbx:=hB x2 (mem_drop hd2)
  unfold ranges_check_2
  cases h2:((yc x2) != 0) with
  |true =>
   have g2:=bne_true h2
   exact zD [.dec true,.el (.sl x2.nl (x2.l.map Sn.D) (zsl x2.nl 2) none),.pure (I (yc x2)),.dec true] (Ai h2 (Ai (T_ranges_Check x2 (by omega)) (Ai (zS (s:=l) (f:=(GS.D Sn.D 2)) (k:=1) hd2) (Ai (zT hd2) trivial)))) (by kernel_rfl)
  |false =>
   have g2:=bne_false h2
   exact po_turn [.dec true,.el (.sl x2.nl (x2.l.map Sn.D) (zsl x2.nl 2) none),.pure (I (yc x2)),.dec false,.rw 17 (I ((i2+1:Nat):Int))] (Ai (zM (i:=i2) (by have:=zg hd2;omega)) (Ai h2 (Ai (T_ranges_Check x2 (by omega)) (Ai (zS (s:=l) (f:=(GS.D Sn.D 2)) (k:=1) hd2) (Ai (zT hd2) trivial))))) (ih (i2+1) (zi hd2) (zg hd2) (by omega) (by omega)) (by kernel_rfl)

def zJ (l:GS (GS Sn)):Int :=
 match ranges_check_2 l.l 0 with
 |.x0 =>
  0
 |.x1 i2 x2 =>
  (yc x2)

def sd5 (l:GS (GS Sn)):St:=⟨18,[(9,B false),(6,.sl l.nl (l.l.map (GS.D Sn.D 2)) (zsl l.nl 1) none),(7,I (l.l.length:Int)),(8,I (l.l.length:Int))],[],0,0⟩

def sd6 (l:GS (GS Sn)) (i2:Nat) (x2:GS Sn):St:=⟨18,[(2,I (yc x2)),(16,I (yc x2)),(15,B true),(14,I (yc x2)),(5,I (yc x2)),(13,I (yc x2)),(12,.sl x2.nl (x2.l.map Sn.D) (zsl x2.nl 2) none),(4,.sl x2.nl (x2.l.map Sn.D) (zsl x2.nl 2) none),(11,.sl x2.nl (x2.l.map Sn.D) (zsl x2.nl 2) none),(10,.ptr (.sl x2.nl (x2.l.map Sn.D) (zsl x2.nl 2) none)),(9,B true),(6,.sl l.nl (l.l.map (GS.D Sn.D 2)) (zsl l.nl 1) none),(7,I (l.l.length:Int)),(8,I (i2:Int))],[],0,0⟩

theorem T_ranges_check (l:GS (GS Sn)) (hB:∀r∈l.l,r.l.length≤9223372036854775807) (hL_l:l.l.length≤9223372036854775807):(lim cfg).pure 86 [GS.D (GS.D Sn.D 2) 1 l]=some (I (zJ l)):=by
 unfold zJ
 cases h3:ranges_check_2 l.l 0 with
 |x0 =>
  try dsimp only
  exact zp [.rw 7 (I (l.l.length:Int)),.loop (.exit 0) (sd5 l)] (Ai (y8 (q:=lr_ranges_check_2 l) (lp_ranges_check_2 l l.l 0 (List.drop_zero) (Nat.zero_le _) (by omega) (by omega)) h3) (Ai (zk (GS.D Sn.D 2) l) trivial)) (by kernel_rfl)
 |x1 i2 x2 =>
  try dsimp only
  exact zp [.rw 7 (I (l.l.length:Int)),.loop .ret (sd6 l i2 x2)] (Ai (y8 (q:=lr_ranges_check_2 l) (lp_ranges_check_2 l l.l 0 (List.drop_zero) (Nat.zero_le _) (by omega) (by omega)) h3) (Ai (zk (GS.D Sn.D 2) l) trivial)) (by kernel_rfl)

noncomputable def lp32_4:Code:=subC [1,1,0,1,0,0] (bodyC Tryz.f32)

inductive LR_r_Valid_4 where
 |x0
 |x1 (i4:Nat) (x4:Sn)
 |x2 (i4:Nat) (x4:Sn)
 |x3 (i4:Nat) (x4:Sn)
 |x4 (i4:Nat) (x4:Sn)
instance:Inhabited LR_r_Valid_4:=⟨.x0⟩
def r_Valid_4 (r:GS Sn):List Sn→Nat→LR_r_Valid_4
 |[],i4=>.x0
 |x4::xm,i4 =>
  bif decide (x4.lo>x4.hi) then
   .x1 i4 x4
  else
   bif decide (x4.lo < (-1099511627776)) then
    .x2 i4 x4
   else
    bif decide (x4.hi>1099511627776) then
     .x3 i4 x4
    else
     bif decide ((i4:Int)>0) then
      bif decide ((w64 (((GS.at r (w64 ((i4:Int) - 1))).hi)+1)) ≥ x4.lo) then
       .x4 i4 x4
      else
       r_Valid_4 r xm (i4+1)
     else
      r_Valid_4 r xm (i4+1)
def lr_r_Valid_4 (r:GS Sn):LR_r_Valid_4→Exit × St
 |.x0=>((.exit 0),⟨57,[(10,B false),(9,I (r.l.length:Int)),(8,.sl r.nl (r.l.map Sn.D) (zsl r.nl 2) none),(7,I (r.l.length:Int)),(0,.sl r.nl (r.l.map Sn.D) (zsl r.nl 2) none),(3,I (r.l.length:Int))],[],0,0⟩)
 |.x1 i4 x4=>(.ret,⟨57,[(2,B false),(39,B true),(38,.tup []),(37,.tup []),(36,.tup []),(35,.tup []),(34,.tup []),(33,.tup []),(32,B true),(31,B true),(30,.tup []),(29,.tup []),(28,.tup []),(27,.tup []),(26,.tup []),(25,.tup []),(24,B true),(23,B true),(22,I x4.hi),(21,.ptr (I x4.hi)),(20,.ptr (.agg [I x4.lo,I x4.hi])),(19,I (i4:Int)),(18,.sl r.nl (r.l.map Sn.D) (zsl r.nl 2) none),(17,I x4.lo),(16,.ptr (I x4.lo)),(15,.ptr (.agg [I x4.lo,I x4.hi])),(14,I (i4:Int)),(13,.sl r.nl (r.l.map Sn.D) (zsl r.nl 2) none),(10,B true),(9,I (r.l.length:Int)),(8,.sl r.nl (r.l.map Sn.D) (zsl r.nl 2) none),(7,I (i4:Int)),(0,.sl r.nl (r.l.map Sn.D) (zsl r.nl 2) none),(3,I (i4:Int))],[],0,0⟩)
 |.x2 i4 x4=>(.ret,⟨57,[(2,B false),(39,B true),(38,.tup []),(37,.tup []),(36,.tup []),(35,.tup []),(34,.tup []),(33,.tup []),(32,B true),(31,B true),(30,B true),(29,I x4.lo),(28,.ptr (I x4.lo)),(27,.ptr (.agg [I x4.lo,I x4.hi])),(26,I (i4:Int)),(25,.sl r.nl (r.l.map Sn.D) (zsl r.nl 2) none),(24,B false),(23,B false),(22,I x4.hi),(21,.ptr (I x4.hi)),(20,.ptr (.agg [I x4.lo,I x4.hi])),(19,I (i4:Int)),(18,.sl r.nl (r.l.map Sn.D) (zsl r.nl 2) none),(17,I x4.lo),(16,.ptr (I x4.lo)),(15,.ptr (.agg [I x4.lo,I x4.hi])),(14,I (i4:Int)),(13,.sl r.nl (r.l.map Sn.D) (zsl r.nl 2) none),(10,B true),(9,I (r.l.length:Int)),(8,.sl r.nl (r.l.map Sn.D) (zsl r.nl 2) none),(7,I (i4:Int)),(0,.sl r.nl (r.l.map Sn.D) (zsl r.nl 2) none),(3,I (i4:Int))],[],0,0⟩)
 |.x3 i4 x4=>(.ret,⟨57,[(2,B false),(39,B true),(38,B true),(37,I x4.hi),(36,.ptr (I x4.hi)),(35,.ptr (.agg [I x4.lo,I x4.hi])),(34,I (i4:Int)),(33,.sl r.nl (r.l.map Sn.D) (zsl r.nl 2) none),(32,B false),(31,B false),(30,B false),(29,I x4.lo),(28,.ptr (I x4.lo)),(27,.ptr (.agg [I x4.lo,I x4.hi])),(26,I (i4:Int)),(25,.sl r.nl (r.l.map Sn.D) (zsl r.nl 2) none),(24,B false),(23,B false),(22,I x4.hi),(21,.ptr (I x4.hi)),(20,.ptr (.agg [I x4.lo,I x4.hi])),(19,I (i4:Int)),(18,.sl r.nl (r.l.map Sn.D) (zsl r.nl 2) none),(17,I x4.lo),(16,.ptr (I x4.lo)),(15,.ptr (.agg [I x4.lo,I x4.hi])),(14,I (i4:Int)),(13,.sl r.nl (r.l.map Sn.D) (zsl r.nl 2) none),(10,B true),(9,I (r.l.length:Int)),(8,.sl r.nl (r.l.map Sn.D) (zsl r.nl 2) none),(7,I (i4:Int)),(0,.sl r.nl (r.l.map Sn.D) (zsl r.nl 2) none),(3,I (i4:Int))],[],0,0⟩)
 |.x4 i4 x4=>(.ret,⟨57,[(2,B false),(56,B true),(55,B true),(54,I x4.lo),(53,.ptr (I x4.lo)),(52,.ptr (.agg [I x4.lo,I x4.hi])),(51,I (i4:Int)),(50,.sl r.nl (r.l.map Sn.D) (zsl r.nl 2) none),(49,I (w64 (((GS.at r (w64 ((i4:Int) - 1))).hi)+1))),(48,I ((GS.at r (w64 ((i4:Int) - 1))).hi)),(47,.ptr (I ((GS.at r (w64 ((i4:Int) - 1))).hi))),(46,.ptr (.agg [I ((GS.at r (w64 ((i4:Int) - 1))).lo),I ((GS.at r (w64 ((i4:Int) - 1))).hi)])),(45,I (w64 ((i4:Int) - 1))),(44,I (i4:Int)),(43,.sl r.nl (r.l.map Sn.D) (zsl r.nl 2) none),(42,B true),(41,B true),(40,I (i4:Int)),(39,B false),(38,B false),(37,I x4.hi),(36,.ptr (I x4.hi)),(35,.ptr (.agg [I x4.lo,I x4.hi])),(34,I (i4:Int)),(33,.sl r.nl (r.l.map Sn.D) (zsl r.nl 2) none),(32,B false),(31,B false),(30,B false),(29,I x4.lo),(28,.ptr (I x4.lo)),(27,.ptr (.agg [I x4.lo,I x4.hi])),(26,I (i4:Int)),(25,.sl r.nl (r.l.map Sn.D) (zsl r.nl 2) none),(24,B false),(23,B false),(22,I x4.hi),(21,.ptr (I x4.hi)),(20,.ptr (.agg [I x4.lo,I x4.hi])),(19,I (i4:Int)),(18,.sl r.nl (r.l.map Sn.D) (zsl r.nl 2) none),(17,I x4.lo),(16,.ptr (I x4.lo)),(15,.ptr (.agg [I x4.lo,I x4.hi])),(14,I (i4:Int)),(13,.sl r.nl (r.l.map Sn.D) (zsl r.nl 2) none),(10,B true),(9,I (r.l.length:Int)),(8,.sl r.nl (r.l.map Sn.D) (zsl r.nl 2) none),(7,I (i4:Int)),(0,.sl r.nl (r.l.map Sn.D) (zsl r.nl 2) none),(3,I (i4:Int))],[],0,0⟩)
def r_Valid_4_l_o1 (r:GS Sn) (x4:Sn):List Ora:=[.rw 9 (I (r.l.length:Int)),.dec true,.el (.agg [I x4.lo,I x4.hi]),.el (.agg [I x4.lo,I x4.hi]),.dec false,.el (.agg [I x4.lo,I x4.hi])]
def r_Valid_4_l_o2 (r:GS Sn) (i4:Nat) (x4:Sn):List Ora:=[.dec false,.el (.agg [I x4.lo,I x4.hi]),.dec false,.dec true,.el (.agg [I ((GS.at r (w64 ((i4:Int) - 1))).lo),I ((GS.at r (w64 ((i4:Int) - 1))).hi)]),.el (.agg [I x4.lo,I x4.hi])]
theorem lp_r_Valid_4 (r:GS Sn):∀(xm:List Sn) (i4:Nat) (hd4:r.l.drop i4=xm) (hi4:i4≤r.l.length) (hL4:r.l.length≤9223372036854775807),(lim cfg).loop 32 lp32_4 ⟨57,[(0,.sl r.nl (r.l.map Sn.D) (zsl r.nl 2) none),(3,I (i4:Int))],[],0,0⟩=some (lr_r_Valid_4 r (r_Valid_4 r xm i4)):=by
 intro xm
 induction xm with
 |nil =>
  intro i4 hd4 hi4 hL4
  unfold r_Valid_4
  obtain rfl:i4=r.l.length:=zW hd4 hi4
  exact zD [.rw 9 (I (r.l.length:Int)),.dec false] (Ai (lt_no hd4) (Ai (zk Sn.D r) trivial)) (by kernel_rfl)
 |cons x4 xm ih =>
  intro i4 hd4 hi4 hL4
  have hlt4:=zg hd4
  unfold r_Valid_4
  have p1:=(zS (s:=r) (f:=Sn.D) (k:=2) hd4)
  have p2:=(zS (s:=r) (f:=Sn.D) (k:=2) hd4)
  cases h7:decide (x4.lo>x4.hi) with
  |true =>
   have g7:=of_decide_eq_true h7
   exact zD [.rw 9 (I (r.l.length:Int)),.dec true,.el (.agg [I x4.lo,I x4.hi]),.el (.agg [I x4.lo,I x4.hi]),.dec true] (Ai h7 (Ai p2 (Ai p1 (Ai (zT hd4) (Ai (zk Sn.D r) trivial))))) (by kernel_rfl)
  |false =>
   have g7:=of_decide_eq_false h7
   have p3:=(zS (s:=r) (f:=Sn.D) (k:=2) hd4)
   cases h8:decide (x4.lo < (-1099511627776)) with
   |true =>
    have g8:=of_decide_eq_true h8
    exact zD ((r_Valid_4_l_o1 r x4)++[.dec true]) (Ai h8 (Ai p3 (Ai h7 (Ai p2 (Ai p1 (Ai (zT hd4) (Ai (zk Sn.D r) trivial))))))) (by kernel_rfl)
   |false =>
    have g8:=of_decide_eq_false h8
    have p4:=(zS (s:=r) (f:=Sn.D) (k:=2) hd4)
    cases h9:decide (x4.hi>1099511627776) with
    |true =>
     have g9:=of_decide_eq_true h9
     exact zD ((r_Valid_4_l_o1 r x4)++[.dec false,.el (.agg [I x4.lo,I x4.hi]),.dec true]) (Ai h9 (Ai p4 (Ai h8 (Ai p3 (Ai h7 (Ai p2 (Ai p1 (Ai (zT hd4) (Ai (zk Sn.D r) trivial))))))))) (by kernel_rfl)
    |false =>
     have g9:=of_decide_eq_false h9
     cases h10:decide ((i4:Int)>0) with
     |true =>
      have g10:=of_decide_eq_true h10
      have p5:=(el_in (s:=r) (f:=Sn.D) (k:=2) (i:=w64 ((i4:Int) - 1)) (by simp only [length_append,length_cons,length_nil,zd] at *<;>omega) (by simp only [length_append,length_cons,length_nil,zd] at *<;>omega))
      have p6:=(zS (s:=r) (f:=Sn.D) (k:=2) hd4)
      cases h11:decide ((w64 (((GS.at r (w64 ((i4:Int) - 1))).hi)+1)) ≥ x4.lo) with
      |true =>
       have g11:=of_decide_eq_true h11
       exact zD ((r_Valid_4_l_o1 r x4)++((r_Valid_4_l_o2 r i4 x4)++[.dec true])) (Ai h11 (Ai p6 (Ai p5 (Ai h10 (Ai h9 (Ai p4 (Ai h8 (Ai p3 (Ai h7 (Ai p2 (Ai p1 (Ai (zT hd4) (Ai (zk Sn.D r) trivial))))))))))))) (by kernel_rfl)
      |false =>
       have g11:=of_decide_eq_false h11
       exact po_turn ((r_Valid_4_l_o1 r x4)++((r_Valid_4_l_o2 r i4 x4)++[.dec false,.rw 12 (I ((i4+1:Nat):Int))])) (Ai (zM (i:=i4) (by have:=zg hd4;omega)) (Ai h11 (Ai p6 (Ai p5 (Ai h10 (Ai h9 (Ai p4 (Ai h8 (Ai p3 (Ai h7 (Ai p2 (Ai p1 (Ai (zT hd4) (Ai (zk Sn.D r) trivial)))))))))))))) (ih (i4+1) (zi hd4) (zg hd4) (by omega)) (by kernel_rfl)
     |false =>
      have g10:=of_decide_eq_false h10
      exact po_turn ((r_Valid_4_l_o1 r x4)++[.dec false,.el (.agg [I x4.lo,I x4.hi]),.dec false,.dec false,.rw 12 (I ((i4+1:Nat):Int))]) (Ai (zM (i:=i4) (by have:=zg hd4;omega)) (Ai h10 (Ai h9 (Ai p4 (Ai h8 (Ai p3 (Ai h7 (Ai p2 (Ai p1 (Ai (zT hd4) (Ai (zk Sn.D r) trivial))))))))))) (ih (i4+1) (zi hd4) (zg hd4) (by omega)) (by kernel_rfl)

def zC (r:GS Sn):Bool :=
 bif decide ((r.l.length:Int)>64) then
  false
 else
  match r_Valid_4 r r.l 0 with
  |.x0 =>
   true
  |.x1 i4 x4 =>
   false
  |.x2 i4 x4 =>
   false
  |.x3 i4 x4 =>
   false
  |.x4 i4 x4 =>
   false

def sd7 (r:GS Sn):St:=⟨57,[(10,B false),(9,I (r.l.length:Int)),(8,.sl r.nl (r.l.map Sn.D) (zsl r.nl 2) none),(7,I (r.l.length:Int)),(0,.sl r.nl (r.l.map Sn.D) (zsl r.nl 2) none),(3,I (r.l.length:Int))],[],0,0⟩

def sd8 (r:GS Sn) (i4:Nat) (x4:Sn):St:=⟨57,[(2,B false),(39,B true),(38,.tup []),(37,.tup []),(36,.tup []),(35,.tup []),(34,.tup []),(33,.tup []),(32,B true),(31,B true),(30,.tup []),(29,.tup []),(28,.tup []),(27,.tup []),(26,.tup []),(25,.tup []),(24,B true),(23,B true),(22,I x4.hi),(21,.ptr (I x4.hi)),(20,.ptr (.agg [I x4.lo,I x4.hi])),(19,I (i4:Int)),(18,.sl r.nl (r.l.map Sn.D) (zsl r.nl 2) none),(17,I x4.lo),(16,.ptr (I x4.lo)),(15,.ptr (.agg [I x4.lo,I x4.hi])),(14,I (i4:Int)),(13,.sl r.nl (r.l.map Sn.D) (zsl r.nl 2) none),(10,B true),(9,I (r.l.length:Int)),(8,.sl r.nl (r.l.map Sn.D) (zsl r.nl 2) none),(7,I (i4:Int)),(0,.sl r.nl (r.l.map Sn.D) (zsl r.nl 2) none),(3,I (i4:Int))],[],0,0⟩

def sd9 (r:GS Sn) (i4:Nat) (x4:Sn):St:=⟨57,[(2,B false),(39,B true),(38,.tup []),(37,.tup []),(36,.tup []),(35,.tup []),(34,.tup []),(33,.tup []),(32,B true),(31,B true),(30,B true),(29,I x4.lo),(28,.ptr (I x4.lo)),(27,.ptr (.agg [I x4.lo,I x4.hi])),(26,I (i4:Int)),(25,.sl r.nl (r.l.map Sn.D) (zsl r.nl 2) none),(24,B false),(23,B false),(22,I x4.hi),(21,.ptr (I x4.hi)),(20,.ptr (.agg [I x4.lo,I x4.hi])),(19,I (i4:Int)),(18,.sl r.nl (r.l.map Sn.D) (zsl r.nl 2) none),(17,I x4.lo),(16,.ptr (I x4.lo)),(15,.ptr (.agg [I x4.lo,I x4.hi])),(14,I (i4:Int)),(13,.sl r.nl (r.l.map Sn.D) (zsl r.nl 2) none),(10,B true),(9,I (r.l.length:Int)),(8,.sl r.nl (r.l.map Sn.D) (zsl r.nl 2) none),(7,I (i4:Int)),(0,.sl r.nl (r.l.map Sn.D) (zsl r.nl 2) none),(3,I (i4:Int))],[],0,0⟩

def sd10 (r:GS Sn) (i4:Nat) (x4:Sn):St:=⟨57,[(2,B false),(39,B true),(38,B true),(37,I x4.hi),(36,.ptr (I x4.hi)),(35,.ptr (.agg [I x4.lo,I x4.hi])),(34,I (i4:Int)),(33,.sl r.nl (r.l.map Sn.D) (zsl r.nl 2) none),(32,B false),(31,B false),(30,B false),(29,I x4.lo),(28,.ptr (I x4.lo)),(27,.ptr (.agg [I x4.lo,I x4.hi])),(26,I (i4:Int)),(25,.sl r.nl (r.l.map Sn.D) (zsl r.nl 2) none),(24,B false),(23,B false),(22,I x4.hi),(21,.ptr (I x4.hi)),(20,.ptr (.agg [I x4.lo,I x4.hi])),(19,I (i4:Int)),(18,.sl r.nl (r.l.map Sn.D) (zsl r.nl 2) none),(17,I x4.lo),(16,.ptr (I x4.lo)),(15,.ptr (.agg [I x4.lo,I x4.hi])),(14,I (i4:Int)),(13,.sl r.nl (r.l.map Sn.D) (zsl r.nl 2) none),(10,B true),(9,I (r.l.length:Int)),(8,.sl r.nl (r.l.map Sn.D) (zsl r.nl 2) none),(7,I (i4:Int)),(0,.sl r.nl (r.l.map Sn.D) (zsl r.nl 2) none),(3,I (i4:Int))],[],0,0⟩

def sd11 (r:GS Sn) (i4:Nat) (x4:Sn):St:=⟨57,[(2,B false),(56,B true),(55,B true),(54,I x4.lo),(53,.ptr (I x4.lo)),(52,.ptr (.agg [I x4.lo,I x4.hi])),(51,I (i4:Int)),(50,.sl r.nl (r.l.map Sn.D) (zsl r.nl 2) none),(49,I (w64 (((GS.at r (w64 ((i4:Int) - 1))).hi)+1))),(48,I ((GS.at r (w64 ((i4:Int) - 1))).hi)),(47,.ptr (I ((GS.at r (w64 ((i4:Int) - 1))).hi))),(46,.ptr (.agg [I ((GS.at r (w64 ((i4:Int) - 1))).lo),I ((GS.at r (w64 ((i4:Int) - 1))).hi)])),(45,I (w64 ((i4:Int) - 1))),(44,I (i4:Int)),(43,.sl r.nl (r.l.map Sn.D) (zsl r.nl 2) none),(42,B true),(41,B true),(40,I (i4:Int)),(39,B false),(38,B false),(37,I x4.hi),(36,.ptr (I x4.hi)),(35,.ptr (.agg [I x4.lo,I x4.hi])),(34,I (i4:Int)),(33,.sl r.nl (r.l.map Sn.D) (zsl r.nl 2) none),(32,B false),(31,B false),(30,B false),(29,I x4.lo),(28,.ptr (I x4.lo)),(27,.ptr (.agg [I x4.lo,I x4.hi])),(26,I (i4:Int)),(25,.sl r.nl (r.l.map Sn.D) (zsl r.nl 2) none),(24,B false),(23,B false),(22,I x4.hi),(21,.ptr (I x4.hi)),(20,.ptr (.agg [I x4.lo,I x4.hi])),(19,I (i4:Int)),(18,.sl r.nl (r.l.map Sn.D) (zsl r.nl 2) none),(17,I x4.lo),(16,.ptr (I x4.lo)),(15,.ptr (.agg [I x4.lo,I x4.hi])),(14,I (i4:Int)),(13,.sl r.nl (r.l.map Sn.D) (zsl r.nl 2) none),(10,B true),(9,I (r.l.length:Int)),(8,.sl r.nl (r.l.map Sn.D) (zsl r.nl 2) none),(7,I (i4:Int)),(0,.sl r.nl (r.l.map Sn.D) (zsl r.nl 2) none),(3,I (i4:Int))],[],0,0⟩

theorem zK (r:GS Sn) (hL_r:r.l.length≤9223372036854775807):(lim cfg).pure 32 [GS.D Sn.D 2 r]=some (B (zC r)):=by
 unfold zC
 cases h1:decide ((r.l.length:Int)>64) with
 |true =>
  have g1:=of_decide_eq_true h1
  exact zp [.rw 5 (I (r.l.length:Int)),.dec true] (Ai h1 (Ai (zk Sn.D r) trivial)) (by kernel_rfl)
 |false =>
  have g1:=of_decide_eq_false h1
  cases h12:r_Valid_4 r r.l 0 with
  |x0 =>
   try dsimp only
   exact zp [.rw 5 (I (r.l.length:Int)),.dec false,.loop (.exit 0) (sd7 r)] (Ai (y8 (q:=lr_r_Valid_4 r) (lp_r_Valid_4 r r.l 0 (List.drop_zero) (Nat.zero_le _) (by omega)) h12) (Ai h1 (Ai (zk Sn.D r) trivial))) (by kernel_rfl)
  |x1 i4 x4 =>
   try dsimp only
   exact zp [.rw 5 (I (r.l.length:Int)),.dec false,.loop .ret (sd8 r i4 x4)] (Ai (y8 (q:=lr_r_Valid_4 r) (lp_r_Valid_4 r r.l 0 (List.drop_zero) (Nat.zero_le _) (by omega)) h12) (Ai h1 (Ai (zk Sn.D r) trivial))) (by kernel_rfl)
  |x2 i4 x4 =>
   try dsimp only
   exact zp [.rw 5 (I (r.l.length:Int)),.dec false,.loop .ret (sd9 r i4 x4)] (Ai (y8 (q:=lr_r_Valid_4 r) (lp_r_Valid_4 r r.l 0 (List.drop_zero) (Nat.zero_le _) (by omega)) h12) (Ai h1 (Ai (zk Sn.D r) trivial))) (by kernel_rfl)
  |x3 i4 x4 =>
   try dsimp only
   exact zp [.rw 5 (I (r.l.length:Int)),.dec false,.loop .ret (sd10 r i4 x4)] (Ai (y8 (q:=lr_r_Valid_4 r) (lp_r_Valid_4 r r.l 0 (List.drop_zero) (Nat.zero_le _) (by omega)) h12) (Ai h1 (Ai (zk Sn.D r) trivial))) (by kernel_rfl)
  |x4 i4 x4 =>
   try dsimp only
   exact zp [.rw 5 (I (r.l.length:Int)),.dec false,.loop .ret (sd11 r i4 x4)] (Ai (y8 (q:=lr_r_Valid_4 r) (lp_r_Valid_4 r r.l 0 (List.drop_zero) (Nat.zero_le _) (by omega)) h12) (Ai h1 (Ai (zk Sn.D r) trivial))) (by kernel_rfl)

noncomputable def lp34_4:Code:=subC [1,1,0,1,0,0] (bodyC Tryz.f34)

inductive LR_r_Same_4 where
 |x0
 |x1 (i4:Nat) (x4:Sn)
instance:Inhabited LR_r_Same_4:=⟨.x0⟩
def r_Same_4 (b:GS Sn):List Sn→Nat→LR_r_Same_4
 |[],i4=>.x0
 |x4::xm,i4 =>
  bif (!((x4.lo == ((GS.at b (i4:Int)).lo)) && ((x4.hi == ((GS.at b (i4:Int)).hi)) && true))) then
   .x1 i4 x4
  else
   r_Same_4 b xm (i4+1)
def lr_r_Same_4 (a:GS Sn) (b:GS Sn):LR_r_Same_4→Exit × St
 |.x0=>((.exit 0),⟨26,[(14,B false),(13,I (a.l.length:Int)),(12,.sl a.nl (a.l.map Sn.D) (zsl a.nl 2) none),(11,I (a.l.length:Int)),(0,.sl a.nl (a.l.map Sn.D) (zsl a.nl 2) none),(1,.sl b.nl (b.l.map Sn.D) (zsl b.nl 2) none),(5,I (a.l.length:Int))],[],0,0⟩)
 |.x1 i4 x4=>(.ret,⟨26,[(4,B false),(25,B true),(24,.agg [I ((GS.at b (i4:Int)).lo),I ((GS.at b (i4:Int)).hi)]),(23,.ptr (.agg [I ((GS.at b (i4:Int)).lo),I ((GS.at b (i4:Int)).hi)])),(22,I (i4:Int)),(21,.sl b.nl (b.l.map Sn.D) (zsl b.nl 2) none),(20,.agg [I x4.lo,I x4.hi]),(19,.ptr (.agg [I x4.lo,I x4.hi])),(18,I (i4:Int)),(17,.sl a.nl (a.l.map Sn.D) (zsl a.nl 2) none),(14,B true),(13,I (a.l.length:Int)),(12,.sl a.nl (a.l.map Sn.D) (zsl a.nl 2) none),(11,I (i4:Int)),(0,.sl a.nl (a.l.map Sn.D) (zsl a.nl 2) none),(1,.sl b.nl (b.l.map Sn.D) (zsl b.nl 2) none),(5,I (i4:Int))],[],0,0⟩)
theorem lp_r_Same_4 (a:GS Sn) (b:GS Sn):∀(xm:List Sn) (i4:Nat) (hd4:a.l.drop i4=xm) (hi4:i4≤a.l.length) (hq:a.l.length=b.l.length) (hL4:a.l.length≤9223372036854775807),(lim cfg).loop 34 lp34_4 ⟨26,[(0,.sl a.nl (a.l.map Sn.D) (zsl a.nl 2) none),(1,.sl b.nl (b.l.map Sn.D) (zsl b.nl 2) none),(5,I (i4:Int))],[],0,0⟩=some (lr_r_Same_4 a b (r_Same_4 b xm i4)):=by
 intro xm
 induction xm with
 |nil =>
  intro i4 hd4 hi4 hq hL4
  unfold r_Same_4
  obtain rfl:i4=a.l.length:=zW hd4 hi4
  exact zD [.rw 13 (I (a.l.length:Int)),.dec false] (Ai (lt_no hd4) (Ai (zk Sn.D a) trivial)) (by kernel_rfl)
 |cons x4 xm ih =>
  intro i4 hd4 hi4 hq hL4
  have hlt4:=zg hd4
  unfold r_Same_4
  cases h3:(!((x4.lo == ((GS.at b (i4:Int)).lo)) && ((x4.hi == ((GS.at b (i4:Int)).hi)) && true))) with
  |true =>
   exact zD [.rw 13 (I (a.l.length:Int)),.dec true,.el (.agg [I x4.lo,I x4.hi]),.el (.agg [I ((GS.at b (i4:Int)).lo),I ((GS.at b (i4:Int)).hi)]),.dec true] (Ai h3 (Ai (el_in (s:=b) (f:=Sn.D) (k:=2) (i:=(i4:Int)) (by omega) (by omega)) (Ai (zS (s:=a) (f:=Sn.D) (k:=2) hd4) (Ai (zT hd4) (Ai (zk Sn.D a) trivial))))) (by kernel_rfl)
  |false =>
   exact po_turn [.rw 13 (I (a.l.length:Int)),.dec true,.el (.agg [I x4.lo,I x4.hi]),.el (.agg [I ((GS.at b (i4:Int)).lo),I ((GS.at b (i4:Int)).hi)]),.dec false,.rw 16 (I ((i4+1:Nat):Int))] (Ai (zM (i:=i4) (by have:=zg hd4;omega)) (Ai h3 (Ai (el_in (s:=b) (f:=Sn.D) (k:=2) (i:=(i4:Int)) (by omega) (by omega)) (Ai (zS (s:=a) (f:=Sn.D) (k:=2) hd4) (Ai (zT hd4) (Ai (zk Sn.D a) trivial)))))) (ih (i4+1) (zi hd4) (zg hd4) (by omega) (by omega)) (by kernel_rfl)

def r_Same (a:GS Sn) (b:GS Sn):Bool :=
 bif ((a.l.length:Int) != (b.l.length:Int)) then
  false
 else
  match r_Same_4 b a.l 0 with
  |.x0 =>
   true
  |.x1 i4 x4 =>
   false

def sd12 (a:GS Sn) (b:GS Sn):St:=⟨26,[(14,B false),(13,I (a.l.length:Int)),(12,.sl a.nl (a.l.map Sn.D) (zsl a.nl 2) none),(11,I (a.l.length:Int)),(0,.sl a.nl (a.l.map Sn.D) (zsl a.nl 2) none),(1,.sl b.nl (b.l.map Sn.D) (zsl b.nl 2) none),(5,I (a.l.length:Int))],[],0,0⟩

def sd13 (a:GS Sn) (b:GS Sn) (i4:Nat) (x4:Sn):St:=⟨26,[(4,B false),(25,B true),(24,.agg [I ((GS.at b (i4:Int)).lo),I ((GS.at b (i4:Int)).hi)]),(23,.ptr (.agg [I ((GS.at b (i4:Int)).lo),I ((GS.at b (i4:Int)).hi)])),(22,I (i4:Int)),(21,.sl b.nl (b.l.map Sn.D) (zsl b.nl 2) none),(20,.agg [I x4.lo,I x4.hi]),(19,.ptr (.agg [I x4.lo,I x4.hi])),(18,I (i4:Int)),(17,.sl a.nl (a.l.map Sn.D) (zsl a.nl 2) none),(14,B true),(13,I (a.l.length:Int)),(12,.sl a.nl (a.l.map Sn.D) (zsl a.nl 2) none),(11,I (i4:Int)),(0,.sl a.nl (a.l.map Sn.D) (zsl a.nl 2) none),(1,.sl b.nl (b.l.map Sn.D) (zsl b.nl 2) none),(5,I (i4:Int))],[],0,0⟩

theorem T_r_Same (a:GS Sn) (b:GS Sn) (hL_a:a.l.length≤9223372036854775807):(lim cfg).pure 34 [GS.D Sn.D 2 a,GS.D Sn.D 2 b]=some (B (r_Same a b)):=by
 unfold r_Same
 cases h1:((a.l.length:Int) != (b.l.length:Int)) with
 |true =>
  have g1:=bne_true h1
  exact zp [.rw 7 (I (a.l.length:Int)),.rw 9 (I (b.l.length:Int)),.dec true] (Ai h1 (Ai (zk Sn.D b) (Ai (zk Sn.D a) trivial))) (by kernel_rfl)
 |false =>
  have g1:=bne_false h1
  cases h4:r_Same_4 b a.l 0 with
  |x0 =>
   try dsimp only
   exact zp [.rw 7 (I (a.l.length:Int)),.rw 9 (I (b.l.length:Int)),.dec false,.loop (.exit 0) (sd12 a b)] (Ai (y8 (q:=lr_r_Same_4 a b) (lp_r_Same_4 a b a.l 0 (List.drop_zero) (Nat.zero_le _) (by omega) (by omega)) h4) (Ai h1 (Ai (zk Sn.D b) (Ai (zk Sn.D a) trivial)))) (by kernel_rfl)
  |x1 i4 x4 =>
   try dsimp only
   exact zp [.rw 7 (I (a.l.length:Int)),.rw 9 (I (b.l.length:Int)),.dec false,.loop .ret (sd13 a b i4 x4)] (Ai (y8 (q:=lr_r_Same_4 a b) (lp_r_Same_4 a b a.l 0 (List.drop_zero) (Nat.zero_le _) (by omega) (by omega)) h4) (Ai h1 (Ai (zk Sn.D b) (Ai (zk Sn.D a) trivial)))) (by kernel_rfl)

end Go.VS

namespace Go.VS
open Go Go.Proofs
theorem zv (l:List Sn):(zB zx l).length=l.length:=srtG_len gcmp_lo l
theorem T_sort (o nxt:Nat) (cap:Option Nat) (l:List Sn) (hl:l.length≤1099511627776):(lim cfg).inl 103 [.lsl o 0 l.length 2 cap,.fn (.func 104) [] []] [(o,⟨l.map Sn.D,2,false⟩)] nxt=some (.tup [],[(o,⟨(zB zx l).map Sn.D,2,false⟩)],nxt) :=
 inl_of (sortN_at (f:=Sn.D) (g:=104) (cf:=zx) (to:=fun x=>(x.lo,x.hi)) (of:=fun p=>⟨p.1,p.2⟩) (fun _=>rfl) (fun _=>rfl) o nxt cap l hl)
theorem T_sort_nil (nxt:Nat):(lim cfg).inl 103 [.sl true [] 0 none,.fn (.func 104) [] []] [] nxt=some (.tup [],[],nxt):=inl_of (sortN_nil (g:=104) (cf:=zx) nxt)

theorem z7:EncOK 2 Sn.D:=⟨fun _ _ _=>rfl,fun _ _=>rfl,fun _ _ _=>rfl,fun _=>⟨rfl,rfl⟩⟩

def zh (lo:Int) (hi:Int):(GS Sn) :=
 bif decide (lo>hi) then
  GS.nil
 else
  GS.some [(⟨lo,hi⟩:Sn)]

theorem T_ranges_some (lo:Int) (hi:Int):(lim cfg).pure 77 [I lo,I hi]=some (GS.D Sn.D 2 (zh lo hi)):=by
 unfold zh
 cases h1:decide (lo>hi) with
 |true =>
  have g1:=of_decide_eq_true h1
  exact zp [.dec true] (Ai h1 trivial) (by kernel_rfl)
 |false =>
  have g1:=of_decide_eq_false h1
  exact zp [.dec false] (Ai h1 trivial) (by kernel_rfl)

theorem some1 (lo hi:Int):(zh lo hi).l.length≤1:=by
 unfold zh
 cases decide (lo>hi)<;>simp [GS.nil,GS.some]
noncomputable def lp69_4:Code:=subC [1,1,1,0,1,0,0] (bodyC Tryz.f69)

end Go.VS

namespace Go.VS
open List (length_cons)
open Go
theorem in_iff {n lo hi:Int}:ranges_in n lo hi=true↔lo≤n∧n≤hi:=by
 unfold ranges_in
 simp only [Bool.cond_eq_ite,decide_eq_true_eq]
 constructor
 ·intro h
  split at h
  ·split at h
   ·omega
   ·cases h
  ·cases h
 ·intro h
  rw [if_pos (by omega),if_pos (by omega)]
def Ar (n:Int):Prop:=-1099511627776≤n∧n≤1099511627776
theorem area_iff {n:Int}:zq n=true↔Ar n:=by
 unfold zq Ar
 rw [← in_iff]
 cases ranges_in n (-1099511627776) 1099511627776<;>simp
theorem area_no {n:Int}:zq n=false↔¬Ar n:=by rw [← area_iff];simp
theorem at_of' {r:GS Sn} {x:Sn} {rest:List Sn} {i:Nat} (h:r.l.drop i=x::rest):r.at (i:Int)=x:=by
 have hx:r.l[i]?=Option.some x:=by rw [← List.head?_drop,h];rfl
 show r.l.getD ((i:Int)).toNat default=x
 rw [Int.toNat_natCast,List.getD_eq_getElem?_getD,hx];rfl
def chn:Option Int→List Sn→Prop
 |_,[]=>True
 |p,s::l=>s.lo≤s.hi∧Ar s.lo∧Ar s.hi∧(∀h,p=some h→h+1 < s.lo)∧chn (some s.hi) l
theorem chn_iff:∀{l:List Sn} {p:Option Int},chn p l↔cn l∧bd l∧∀h,p=some h→∀t∈l,h+1 < t.lo
 |[],p=>⟨fun _=>⟨trivial,(fun s hs=>by cases hs),(fun h _ t ht=>by cases ht)⟩,fun _=>trivial⟩
 |s::l,p=>by
  simp only [chn]
  rw [chn_iff (l:=l) (p:=some s.hi)]
  constructor
  ·rintro ⟨h1,h2,h3,h4,h5,h6,h7⟩
   refine ⟨⟨h1,h7 s.hi rfl,h5⟩,fun t ht=>?_,fun h hp t ht=>?_⟩
   ·rcases List.mem_cons.1 ht with rfl|ht
    ·exact ⟨h2.1,h2.2,h3.1,h3.2⟩
    ·exact h6 t ht
   ·rcases List.mem_cons.1 ht with rfl|ht
    ·exact h4 h hp
    ·have:=h4 h hp;have:=h7 s.hi rfl t ht;omega
  ·rintro ⟨⟨h1,h2,h3⟩,h4,h5⟩
   have hs:=h4 s List.mem_cons_self
   exact ⟨h1,⟨hs.1,hs.2.1⟩,⟨hs.2.2.1,hs.2.2.2⟩,fun h hp=>h5 h hp s List.mem_cons_self,h3,fun t ht=>h4 t (List.mem_cons_of_mem _ ht),(fun h hp t ht=>by cases hp;exact h2 t ht)⟩
theorem ok_chn {l:List Sn}:Ok l↔chn none l∧l.length≤64:=by
 rw [chn_iff]
 exact ⟨fun h=>⟨⟨h.1,h.2.1,(fun h hp=>by cases hp)⟩,h.2.2⟩,fun h=>⟨h.1.1,h.1.2.1,h.2⟩⟩
def prv (r:GS Sn) (i:Nat):Option Int:=if i=0 then none else some (r.at ((i:Int) - 1)).hi
theorem check4 (r:GS Sn):∀(l:List Sn) (i:Nat),r.l.drop i=l→i+l.length≤64→(∀h,prv r i=some h→Ar h)→(ranges_Check_4 r l i=.x0↔chn (prv r i) l)
 |[],i,_,_,_=>by simp [ranges_Check_4,chn]
 |x::l,i,hd,hi,hp=>by
  have hx:=at_of' hd
  unfold ranges_Check_4
  simp only [chn]
  have hn:prv r (i+1)=some x.hi:=by
   unfold prv
   rw [if_neg (by omega),show ((i+1:Nat):Int) - 1=(i:Int) from by omega,hx]
  cases h1:decide (x.lo>x.hi) with
  |true=>have:=of_decide_eq_true h1;simp;intro;omega
  |false =>
   have h1:=of_decide_eq_false h1
   cases h2:zq x.lo with
   |false=>have:=area_no.1 h2;simp [this]
   |true =>
    have h2:=area_iff.1 h2
    cases h3:zq x.hi with
    |false=>have:=area_no.1 h3;simp [this]
    |true =>
     have h3:=area_iff.1 h3
     have hil:i < 64:=by simp only [length_cons] at hi;omega
     have ih:=check4 r l (i+1) (zi hd) (by simp only [length_cons] at hi;omega) (fun h hh=>by rw [hn] at hh;cases hh;exact h3)
     rw [hn] at ih
     simp only [cond_false,cond_true]
     by_cases h0:i=0
     ·subst h0
      rw [decide_eq_false (by omega),cond_false,ih]
      simp only [prv,if_true]
      exact ⟨fun h=>⟨by omega,h2,h3,fun _ hh=>(by cases hh),h⟩,fun h=>h.2.2.2.2⟩
     ·have e:prv r i=some (r.at ((i:Int) - 1)).hi:=by unfold prv;rw [if_neg h0]
      have ha:=hp _ e
      rw [decide_eq_true (by omega:(i:Int)>0),cond_true,w64_eq (n:=(i:Int) - 1) (by omega) (by omega),e]
      unfold Ar at ha
      rw [w64_eq (by omega) (by omega)]
      cases h4:decide ((r.at ((i:Int) - 1)).hi+1 ≥ x.lo) with
      |true =>
       have:=of_decide_eq_true h4
       simp only [cond_true]
       exact ⟨fun h=>(by cases h),fun h=>by have:=h.2.2.2.1 _ rfl;omega⟩
      |false =>
       have:=of_decide_eq_false h4
       simp only [cond_false]
       rw [ih]
       exact ⟨fun h=>⟨by omega,h2,h3,fun _ hh=>(by cases hh;omega),h⟩,fun h=>h.2.2.2.2⟩
theorem check_iff {r:GS Sn}:yc r=0↔Ok r.l:=by
 rw [ok_chn]
 unfold yc
 cases h:decide ((r.l.length:Int)>64) with
 |true=>have:=of_decide_eq_true h;simp only [cond_true];exact ⟨fun h=>(by cases h),fun h=>by have:=h.2;omega⟩
 |false =>
  have h:=of_decide_eq_false h
  have k:=check4 r r.l 0 (List.drop_zero) (by omega) (fun h hh=>by cases hh)
  have e:prv r 0=none:=rfl
  rw [e] at k
  simp only [cond_false]
  rw [← k]
  cases ranges_Check_4 r r.l 0<;>simp<;>omega
theorem check_20 {r:GS Sn} (h:¬Ok r.l):yc r=20:=by
 rw [← check_iff] at h
 unfold yc at h ⊢
 cases hd:decide ((r.l.length:Int)>64) with
 |true=>rfl
 |false =>
  rw [hd] at h
  simp only [cond_false] at h ⊢
  cases hh:ranges_Check_4 r r.l 0<;>rw [hh] at h<;>simp at h ⊢
theorem valid4 (r:GS Sn):∀(l:List Sn) (i:Nat),r.l.drop i=l→i+l.length≤64→(∀h,prv r i=some h→Ar h)→(r_Valid_4 r l i=.x0↔chn (prv r i) l)
 |[],i,_,_,_=>by simp [r_Valid_4,chn]
 |x::l,i,hd,hi,hp=>by
  have hx:=at_of' hd
  have hil:i < 64:=by simp only [length_cons] at hi;omega
  unfold r_Valid_4
  simp only [chn]
  have hn:prv r (i+1)=some x.hi:=by
   unfold prv
   rw [if_neg (by omega),show ((i+1:Nat):Int) - 1=(i:Int) from by omega,hx]
  cases h1:decide (x.lo>x.hi) with
  |true=>have:=of_decide_eq_true h1;simp;intro;omega
  |false =>
   have h1:=of_decide_eq_false h1
   cases h2:decide (x.lo < -1099511627776) with
   |true=>have:=of_decide_eq_true h2;simp [Ar];intros;omega
   |false =>
    have h2:=of_decide_eq_false h2
    cases h3:decide (x.hi>1099511627776) with
    |true=>have:=of_decide_eq_true h3;simp [Ar];intros;omega
    |false =>
     have h3:=of_decide_eq_false h3
     have a1:Ar x.lo:=⟨by omega,by omega⟩
     have a2:Ar x.hi:=⟨by omega,by omega⟩
     have ih:=valid4 r l (i+1) (zi hd) (by simp only [length_cons] at hi;omega) (fun h hh=>by rw [hn] at hh;cases hh;exact a2)
     rw [hn] at ih
     simp only [cond_false]
     by_cases h0:i=0
     ·subst h0
      rw [decide_eq_false (by omega),cond_false,ih]
      simp only [prv,if_true]
      exact ⟨fun h=>⟨by omega,a1,a2,fun _ hh=>(by cases hh),h⟩,fun h=>h.2.2.2.2⟩
     ·have e:prv r i=some (r.at ((i:Int) - 1)).hi:=by unfold prv;rw [if_neg h0]
      have ha:=hp _ e
      rw [decide_eq_true (by omega:(i:Int)>0),cond_true,w64_eq (n:=(i:Int) - 1) (by omega) (by omega),e]
      unfold Ar at ha
      rw [w64_eq (by omega) (by omega)]
      cases h4:decide ((r.at ((i:Int) - 1)).hi+1 ≥ x.lo) with
      |true =>
       have:=of_decide_eq_true h4
       simp only [cond_true]
       exact ⟨fun h=>(by cases h),fun h=>by have:=h.2.2.2.1 _ rfl;omega⟩
      |false =>
       have:=of_decide_eq_false h4
       simp only [cond_false]
       rw [ih]
       exact ⟨fun h=>⟨by omega,a1,a2,fun _ hh=>(by cases hh;omega),h⟩,fun h=>h.2.2.2.2⟩
theorem ym {r:GS Sn}:zC r=true↔Ok r.l:=by
 rw [ok_chn]
 unfold zC
 cases h:decide ((r.l.length:Int)>64) with
 |true=>have:=of_decide_eq_true h;simp only [cond_true];exact ⟨fun h=>(by cases h),fun h=>by have:=h.2;omega⟩
 |false =>
  have h:=of_decide_eq_false h
  have k:=valid4 r r.l 0 (List.drop_zero) (by omega) (fun h hh=>by cases hh)
  have e:prv r 0=none:=rfl
  rw [e] at k
  simp only [cond_false]
  rw [← k]
  cases r_Valid_4 r r.l 0<;>simp<;>omega
theorem valid_no {r:GS Sn}:zC r=false↔¬Ok r.l:=by rw [← ym];simp
theorem check_valid (r:GS Sn):yc r=bif zC r then 0 else 20:=by
 cases h:zC r with
 |true=>exact check_iff.2 (ym.1 h)
 |false=>exact check_20 (valid_no.1 h)
theorem check2 (a b:GS Sn):zJ (GS.some [a,b])=bif zC a then (bif zC b then 0 else 20) else 20:=by
 unfold zJ
 simp only [GS.some_l,ranges_check_2,check_valid]
 cases ha:zC a<;>cases hb:zC b<;>simp [check_valid,ha,hb]
theorem check2_iff {a b:GS Sn}:zJ (GS.some [a,b])=0↔Ok a.l∧Ok b.l:=by
 rw [check2]
 rw [← ym,← ym]
 cases zC a<;>cases zC b<;>simp
theorem check2_len {a b:GS Sn} (h:zJ (GS.some [a,b])=0):a.l.length≤64∧b.l.length≤64:=⟨(check2_iff.1 h).1.2.2,(check2_iff.1 h).2.2.2⟩
theorem same4 (b:GS Sn):∀(l:List Sn) (i:Nat),i+l.length=b.l.length→(r_Same_4 b l i=.x0↔l=b.l.drop i)
 |[],i,h=>by
  have:b.l.drop i=[]:=List.drop_eq_nil_iff.2 (by simp at h;omega)
  simp [r_Same_4,this]
 |x::l,i,h=>by
  simp only [length_cons] at h
  have hlt:i < b.l.length:=by omega
  have hd:b.l.drop i=b.l[i]::b.l.drop (i+1):=List.drop_eq_getElem_cons hlt
  have hx:=at_of' hd
  unfold r_Same_4
  rw [hx,hd]
  have ih:=same4 b l (i+1) (by omega)
  generalize b.l[i]=y at *
  obtain ⟨x0,x1⟩:=x
  obtain ⟨y0,y1⟩:=y
  simp only [Bool.and_true,List.cons.injEq,Sn.mk.injEq]
  by_cases e0:x0=y0
  ·by_cases e1:x1=y1
   ·subst e0 e1
    simp only [beq_self_eq_true,Bool.and_self,Bool.not_true,cond_false,and_self,true_and]
    exact ih
   ·have:(x1 == y1)=false:=by simp [e1]
    rw [this,Bool.and_false,Bool.not_false,cond_true]
    exact ⟨fun h=>(by cases h),fun h=>absurd h.1.2 e1⟩
  ·have:(x0 == y0)=false:=by simp [e0]
   rw [this,Bool.false_and,Bool.not_false,cond_true]
   exact ⟨fun h=>(by cases h),fun h=>absurd h.1.1 e0⟩
theorem same_iff {a b:GS Sn}:r_Same a b=true↔a.l=b.l:=by
 unfold r_Same
 by_cases hl:a.l.length=b.l.length
 ·have:((a.l.length:Int) != (b.l.length:Int))=false:=by simp [hl]
  rw [this]
  have k:=same4 b a.l 0 (by omega)
  rw [List.drop_zero] at k
  simp only [cond_false]
  rw [← k]
  cases r_Same_4 b a.l 0<;>simp
 ·have:((a.l.length:Int) != (b.l.length:Int))=true:=by simp;omega
  rw [this]
  simp only [cond_true]
  exact ⟨fun h=>(by cases h),fun h=>absurd (congrArg List.length h) hl⟩
theorem same_refl {a b:GS Sn} (h:a.l=b.l):r_Same a b=true:=same_iff.2 h
end Go.VS

namespace Go.VS
open List (length_set length_append length_cons length_nil)
open Go Go.Proofs
theorem zt {n m k:Nat} {lo hi:Int} (h:(n+1) * k≤m):(n+(zh lo hi).l.length) * k≤m:=Nat.le_trans (Nat.mul_le_mul_right k (Nat.add_le_add_left (some1 lo hi) n)) h
theorem zm {n m:Nat} {lo hi:Int} (h:n+1≤m):n+(zh lo hi).l.length≤m:=Nat.le_trans (Nat.add_le_add_left (some1 lo hi) n) h
theorem zu {m k:Nat} {lo hi:Int} (h:1 * k≤m):(zh lo hi).l.length * k≤m:=Nat.le_trans (Nat.mul_le_mul_right k (some1 lo hi)) h
theorem zn {m:Nat} {lo hi:Int} (h:1≤m):(zh lo hi).l.length≤m:=Nat.le_trans (some1 lo hi) h

def za (x:Sn) (y:Sn):(GS Sn) × Bool :=
 ((zh (zN x.lo y.lo) (imin x.hi y.hi)),false)

theorem T_ranges_Common_1 (x:Sn) (y:Sn):(lim cfg).pure 93 [Sn.D x,Sn.D y]=some (.tup [GS.D Sn.D 2 ((za x y).1),B ((za x y).2)]):=by
 unfold za
 exact zp [.pure (.sl ((zh (zN x.lo y.lo) (imin x.hi y.hi)).nl) (((zh (zN x.lo y.lo) (imin x.hi y.hi)).l).map Sn.D) (zsl ((zh (zN x.lo y.lo) (imin x.hi y.hi)).nl) 2) none)] (Ai (T_ranges_some (zN x.lo y.lo) (imin x.hi y.hi)) trivial) (by kernel_rfl)

theorem common1_len (x y:Sn):((za x y).1).l.length≤1:=some1 _ _

def zb (x:Sn) (y:Sn):(GS Sn) × Bool :=
 ((zh (zN x.lo y.lo) (imin x.hi y.hi)),false)

theorem T_ranges_Minus_1 (x:Sn) (y:Sn):(lim cfg).pure 97 [Sn.D x,Sn.D y]=some (.tup [GS.D Sn.D 2 ((zb x y).1),B ((zb x y).2)]):=by
 unfold zb
 exact zp [.pure (.sl ((zh (zN x.lo y.lo) (imin x.hi y.hi)).nl) (((zh (zN x.lo y.lo) (imin x.hi y.hi)).l).map Sn.D) (zsl ((zh (zN x.lo y.lo) (imin x.hi y.hi)).nl) 2) none)] (Ai (T_ranges_some (zN x.lo y.lo) (imin x.hi y.hi)) trivial) (by kernel_rfl)

theorem minus1_len (x y:Sn):((zb x y).1).l.length≤1:=some1 _ _

noncomputable def lp91_4:Code:=subC [1,1,1,0,1,0,0] (bodyC Tryz.f91)

def sd38 (r:GS Sn) (i4:Nat) (x4:Sn) (xh:List Sn) (xf:Int):St:=⟨28,[(9,I ((i4+1:Nat):Int)),(23,I ((i4+1:Nat):Int)),(4,I (w64 (x4.hi+1))),(22,I (w64 (x4.hi+1))),(21,I x4.hi),(20,.lref 1 0 2 1),(3,.lsl 0 0 xh.length 2 none),(19,.lsl 0 0 xh.length 2 none),(18,.sl ((zh xf (w64 (x4.lo - 1))).nl) (((zh xf (w64 (x4.lo - 1))).l).map Sn.D) (zsl ((zh xf (w64 (x4.lo - 1))).nl) 2) none),(17,I (w64 (x4.lo - 1))),(16,I x4.lo),(15,.lref 1 0 2 0),(14,I xf),(13,.lsl 0 0 xh.length 2 none),(6,.lref 1 0 2 0),(12,.agg [I x4.lo,I x4.hi]),(11,.ptr (.agg [I x4.lo,I x4.hi])),(10,B true),(3,.lsl 0 0 xh.length 2 none),(4,I xf),(7,.sl r.nl (r.l.map Sn.D) (zsl r.nl 2) none),(8,I (r.l.length:Int)),(9,I (i4:Int))],[(0,⟨xh.map Sn.D,2,false⟩),(1,⟨[.agg [I x4.lo,I x4.hi]],2,false⟩)],2,0⟩

def sd39 (r:GS Sn) (i4:Nat) (x4:Sn) (xh:List Sn) (xf:Int):St:=⟨28,[(9,I ((i4+1:Nat):Int)),(23,I ((i4+1:Nat):Int)),(4,I (w64 (x4.hi+1))),(22,I (w64 (x4.hi+1))),(21,I x4.hi),(20,.lref 1 0 2 1),(3,.lsl 2 0 ((xh++((zh xf (w64 (x4.lo - 1))).l)).length) 2 none),(19,.lsl 2 0 ((xh++((zh xf (w64 (x4.lo - 1))).l)).length) 2 none),(18,.sl ((zh xf (w64 (x4.lo - 1))).nl) (((zh xf (w64 (x4.lo - 1))).l).map Sn.D) (zsl ((zh xf (w64 (x4.lo - 1))).nl) 2) none),(17,I (w64 (x4.lo - 1))),(16,I x4.lo),(15,.lref 1 0 2 0),(14,I xf),(13,.lsl 0 0 xh.length 2 none),(6,.lref 1 0 2 0),(12,.agg [I x4.lo,I x4.hi]),(11,.ptr (.agg [I x4.lo,I x4.hi])),(10,B true),(3,.lsl 0 0 xh.length 2 none),(4,I xf),(7,.sl r.nl (r.l.map Sn.D) (zsl r.nl 2) none),(8,I (r.l.length:Int)),(9,I (i4:Int))],[(1,⟨[.agg [I x4.lo,I x4.hi]],2,false⟩),(2,⟨(xh++((zh xf (w64 (x4.lo - 1))).l)).map Sn.D,2,false⟩)],3,0⟩

def sd40 (r:GS Sn) (i4:Nat) (x4:Sn) (xV:Int):St:=⟨28,[(9,I ((i4+1:Nat):Int)),(23,I ((i4+1:Nat):Int)),(4,I (w64 (x4.hi+1))),(22,I (w64 (x4.hi+1))),(21,I x4.hi),(20,.lref 0 0 2 1),(3,.lsl 1 0 (((zh xV (w64 (x4.lo - 1))).l).length) 2 none),(19,.lsl 1 0 (((zh xV (w64 (x4.lo - 1))).l).length) 2 none),(18,.sl ((zh xV (w64 (x4.lo - 1))).nl) (((zh xV (w64 (x4.lo - 1))).l).map Sn.D) (zsl ((zh xV (w64 (x4.lo - 1))).nl) 2) none),(17,I (w64 (x4.lo - 1))),(16,I x4.lo),(15,.lref 0 0 2 0),(14,I xV),(13,.sl true [] 0 none),(6,.lref 0 0 2 0),(12,.agg [I x4.lo,I x4.hi]),(11,.ptr (.agg [I x4.lo,I x4.hi])),(10,B true),(3,.sl true [] 0 none),(4,I xV),(7,.sl r.nl (r.l.map Sn.D) (zsl r.nl 2) none),(8,I (r.l.length:Int)),(9,I (i4:Int))],[(0,⟨[.agg [I x4.lo,I x4.hi]],2,false⟩),(1,⟨((zh xV (w64 (x4.lo - 1))).l).map Sn.D,2,false⟩)],2,0⟩

inductive LR_ranges_outside_4 where
 |x0 (xh:List Sn) (xf:Int)
 |x1 (xV:Int)
instance:Inhabited LR_ranges_outside_4:=⟨.x0 default default⟩
def y9:List Sn→(List Sn)→Int→LR_ranges_outside_4
 |[],xh,xf=>.x0 xh xf
 |x4::xm,xh,xf =>
  bif ((zh xf (w64 (x4.lo - 1))).l).isEmpty then
   y9 xm xh (w64 (x4.hi+1))
  else
   y9 xm (xh++((zh xf (w64 (x4.lo - 1))).l)) (w64 (x4.hi+1))
def yf:List Sn→Int→LR_ranges_outside_4
 |[],xV=>.x1 xV
 |x4::xm,xV =>
  bif ((zh xV (w64 (x4.lo - 1))).l).isEmpty then
   yf xm (w64 (x4.hi+1))
  else
   y9 xm ((zh xV (w64 (x4.lo - 1))).l) (w64 (x4.hi+1))
def lr_ranges_outside_4 (r:GS Sn):LR_ranges_outside_4→Exit × St
 |.x0 xh xf=>((.exit 0),⟨28,[(10,B false),(3,.lsl 0 0 xh.length 2 none),(4,I xf),(7,.sl r.nl (r.l.map Sn.D) (zsl r.nl 2) none),(8,I (r.l.length:Int)),(9,I (r.l.length:Int))],[(0,⟨xh.map Sn.D,2,false⟩)],1,0⟩)
 |.x1 xV=>((.exit 0),⟨28,[(10,B false),(3,.sl true [] 0 none),(4,I xV),(7,.sl r.nl (r.l.map Sn.D) (zsl r.nl 2) none),(8,I (r.l.length:Int)),(9,I (r.l.length:Int))],[],0,0⟩)
def iv_ranges_outside_4 (r:GS Sn):LR_ranges_outside_4→Prop
 |.x0 xh xf=>(xh.length≤r.l.length)
 |.x1 xV=>True
theorem lp_ranges_outside_4a (r:GS Sn):∀(xm:List Sn) (i4:Nat) (xh:List Sn) (xf:Int) (hd4:r.l.drop i4=xm) (hi4:i4≤r.l.length) (hg4_va4_0:xh.length≤i4) (hL4:r.l.length≤1099511627776),(lim cfg).loop 91 lp91_4 ⟨28,[(3,.lsl 0 0 xh.length 2 none),(4,I xf),(7,.sl r.nl (r.l.map Sn.D) (zsl r.nl 2) none),(8,I (r.l.length:Int)),(9,I (i4:Int))],[(0,⟨xh.map Sn.D,2,false⟩)],1,0⟩=some (lr_ranges_outside_4 r (y9 xm xh xf)):=by
 intro xm
 induction xm with
 |nil =>
  intro i4 xh xf hd4 hi4 hg4_va4_0 hL4
  unfold y9
  obtain rfl:i4=r.l.length:=zW hd4 hi4
  exact zD [.dec false] (Ai (lt_no hd4) trivial) (by kernel_rfl)
 |cons x4 xm ih =>
  intro i4 xh xf hd4 hi4 hg4_va4_0 hL4
  have hlt4:=zg hd4
  have hlx:=some1 xf (w64 (x4.lo - 1))
  unfold y9
  cases h3:((zh xf (w64 (x4.lo - 1))).l).isEmpty with
  |true =>
   exact zz (ks:=[3,4,7,8,9]) (st':=(sd38 r i4 x4 xh xf)) [.dec true,.el (.agg [I x4.lo,I x4.hi]),.pure (.sl ((zh xf (w64 (x4.lo - 1))).nl) (((zh xf (w64 (x4.lo - 1))).l).map Sn.D) (zsl ((zh xf (w64 (x4.lo - 1))).nl) 2) none),.op (some 19) ⟨.lsl 0 0 xh.length 2 none,[],[],2⟩,.rw 23 (I ((i4+1:Nat):Int))] (Ai (zM (i:=i4) (by have:=zg hd4;omega)) (Ai (app_none (te:=zR) (gO:=zw [(0,⟨xh.map Sn.D,2,false⟩),(1,⟨[.agg [I x4.lo,I x4.hi]],2,false⟩)]) (nxt:=2) (f:=Sn.D) (sz:=2) (d:=.lsl 0 0 xh.length 2 none) (zh xf (w64 (x4.lo - 1))) h3 rfl) (Ai (T_ranges_some xf (w64 (x4.lo - 1))) (Ai (zS (s:=r) (f:=Sn.D) (k:=2) hd4) (Ai (zT hd4) trivial))))) (by kernel_rfl) (by (simp only [sd38,go_sem,length_set,Nat.reduceAdd,Nat.reduceEqDiff,Nat.reduceLT,Nat.reduceLeDiff,bI2,ze.idsL,ze.renL,ze.snapAll,z7.idsL,z7.renL,z7.snapAll])<;>rfl) (ih (i4+1) xh (w64 (x4.hi+1)) (zi hd4) (zg hd4) (by omega) (by omega)) (by kernel_rfl)
  |false =>
   exact zz (ks:=[3,4,7,8,9]) (st':=(sd39 r i4 x4 xh xf)) [.dec true,.el (.agg [I x4.lo,I x4.hi]),.pure (.sl ((zh xf (w64 (x4.lo - 1))).nl) (((zh xf (w64 (x4.lo - 1))).l).map Sn.D) (zsl ((zh xf (w64 (x4.lo - 1))).nl) 2) none),.op (some 19) ⟨.lsl 2 0 ((xh++((zh xf (w64 (x4.lo - 1))).l)).length) 2 none,[(0,none),(2,some ⟨(xh++((zh xf (w64 (x4.lo - 1))).l)).map Sn.D,2,false⟩)],[0],3⟩,.rw 23 (I ((i4+1:Nat):Int))] (Ai (zM (i:=i4) (by have:=zg hd4;omega)) (Ai (app_moreD (te:=zR) (gO:=zw [(0,⟨xh.map Sn.D,2,false⟩),(1,⟨[.agg [I x4.lo,I x4.hi]],2,false⟩)]) (nxt:=2) (o:=0) (v:=xh) z7 (zh xf (w64 (x4.lo - 1))) h3 (by kernel_rfl) rfl (by kernel_rfl) (by decide) ⟨by simp only [zR,big]<;>(first|assumption|omega|(exact zF (by omega) (by omega))|(exact zt (by omega))|(exact zm (by omega))|(exact zu (by omega))|(exact zn (by omega))|(simp only [zd] at *<;>omega)|(simp only [zv,GS.some_l,length_set,length_append,length_cons,length_nil] at *<;>first|assumption|omega)|(simp only [zv,GS.some_l,length_set,length_append,length_cons,length_nil,zd] at *<;>first|assumption|omega)|(simp at *<;>omega)),by simp only [big]<;>(first|assumption|omega|(exact zF (by omega) (by omega))|(exact zt (by omega))|(exact zm (by omega))|(exact zu (by omega))|(exact zn (by omega))|(simp only [zd] at *<;>omega)|(simp only [zv,GS.some_l,length_set,length_append,length_cons,length_nil] at *<;>first|assumption|omega)|(simp only [zv,GS.some_l,length_set,length_append,length_cons,length_nil,zd] at *<;>first|assumption|omega)|(simp at *<;>omega))⟩) (Ai (T_ranges_some xf (w64 (x4.lo - 1))) (Ai (zS (s:=r) (f:=Sn.D) (k:=2) hd4) (Ai (zT hd4) trivial))))) (by kernel_rfl) (by (simp only [sd39,go_sem,length_set,Nat.reduceAdd,Nat.reduceEqDiff,Nat.reduceLT,Nat.reduceLeDiff,bI2,ze.idsL,ze.renL,ze.snapAll,z7.idsL,z7.renL,z7.snapAll])<;>rfl) (ih (i4+1) (xh++((zh xf (w64 (x4.lo - 1))).l)) (w64 (x4.hi+1)) (zi hd4) (zg hd4) (by simp only [length_append,length_cons,length_nil] at *<;>omega) (by omega)) (by kernel_rfl)
theorem ivt_ranges_outside_4a (r:GS Sn):∀(xm:List Sn) (i4:Nat) (xh:List Sn) (xf:Int) (hd4:r.l.drop i4=xm) (hi4:i4≤r.l.length) (hg4_va4_0:xh.length≤i4) (hL4:r.l.length≤1099511627776),iv_ranges_outside_4 r (y9 xm xh xf):=by
 intro xm
 induction xm with
 |nil =>
  intro i4 xh xf hd4 hi4 hg4_va4_0 hL4
  unfold y9
  obtain rfl:i4=r.l.length:=zW hd4 hi4
  exact hg4_va4_0
 |cons x4 xm ih =>
  intro i4 xh xf hd4 hi4 hg4_va4_0 hL4
  have hlt4:=zg hd4
  have hlx:=some1 xf (w64 (x4.lo - 1))
  unfold y9
  cases h3:((zh xf (w64 (x4.lo - 1))).l).isEmpty with
  |true =>
   exact ih (i4+1) xh (w64 (x4.hi+1)) (zi hd4) (zg hd4) (by omega) (by omega)
  |false =>
   exact ih (i4+1) (xh++((zh xf (w64 (x4.lo - 1))).l)) (w64 (x4.hi+1)) (zi hd4) (zg hd4) (by simp only [length_append,length_cons,length_nil] at *<;>omega) (by omega)
theorem lp_ranges_outside_4 (r:GS Sn):∀(xm:List Sn) (i4:Nat) (xV:Int) (hd4:r.l.drop i4=xm) (hi4:i4≤r.l.length) (hL4:r.l.length≤1099511627776),(lim cfg).loop 91 lp91_4 ⟨28,[(3,.sl true [] 0 none),(4,I xV),(7,.sl r.nl (r.l.map Sn.D) (zsl r.nl 2) none),(8,I (r.l.length:Int)),(9,I (i4:Int))],[],0,0⟩=some (lr_ranges_outside_4 r (yf xm xV)):=by
 intro xm
 induction xm with
 |nil =>
  intro i4 xV hd4 hi4 hL4
  unfold yf
  obtain rfl:i4=r.l.length:=zW hd4 hi4
  exact zD [.dec false] (Ai (lt_no hd4) trivial) (by kernel_rfl)
 |cons x4 xm ih =>
  intro i4 xV hd4 hi4 hL4
  have hlt4:=zg hd4
  have hlx:=some1 xV (w64 (x4.lo - 1))
  unfold yf
  cases h4:((zh xV (w64 (x4.lo - 1))).l).isEmpty with
  |true =>
   exact po_turn [.dec true,.el (.agg [I x4.lo,I x4.hi]),.pure (.sl ((zh xV (w64 (x4.lo - 1))).nl) (((zh xV (w64 (x4.lo - 1))).l).map Sn.D) (zsl ((zh xV (w64 (x4.lo - 1))).nl) 2) none),.op (some 19) ⟨.sl true [] 0 none,[],[],1⟩,.rw 23 (I ((i4+1:Nat):Int))] (Ai (zM (i:=i4) (by have:=zg hd4;omega)) (Ai (app_none (te:=zR) (gO:=zw [(0,⟨[.agg [I x4.lo,I x4.hi]],2,false⟩)]) (nxt:=1) (f:=Sn.D) (sz:=2) (d:=.sl true [] 0 none) (zh xV (w64 (x4.lo - 1))) h4 rfl) (Ai (T_ranges_some xV (w64 (x4.lo - 1))) (Ai (zS (s:=r) (f:=Sn.D) (k:=2) hd4) (Ai (zT hd4) trivial))))) (ih (i4+1) (w64 (x4.hi+1)) (zi hd4) (zg hd4) (by omega)) (by kernel_rfl)
  |false =>
   exact zz (ks:=[3,4,7,8,9]) (st':=(sd40 r i4 x4 xV)) [.dec true,.el (.agg [I x4.lo,I x4.hi]),.pure (.sl ((zh xV (w64 (x4.lo - 1))).nl) (((zh xV (w64 (x4.lo - 1))).l).map Sn.D) (zsl ((zh xV (w64 (x4.lo - 1))).nl) 2) none),.op (some 19) ⟨.lsl 1 0 (((zh xV (w64 (x4.lo - 1))).l).length) 2 none,[(1,some ⟨((zh xV (w64 (x4.lo - 1))).l).map Sn.D,2,false⟩)],[],2⟩,.rw 23 (I ((i4+1:Nat):Int))] (Ai (zM (i:=i4) (by have:=zg hd4;omega)) (Ai (app_newD (te:=zR) (gO:=zw [(0,⟨[.agg [I x4.lo,I x4.hi]],2,false⟩)]) (nxt:=1) (els0:=[]) (sz0:=0) (cap0:=none) z7 (zh xV (w64 (x4.lo - 1))) h4 rfl (by kernel_rfl) (by decide) ⟨by simp only [zR,big]<;>(first|assumption|omega|(exact zF (by omega) (by omega))|(exact zt (by omega))|(exact zm (by omega))|(exact zu (by omega))|(exact zn (by omega))|(simp only [zd] at *<;>omega)|(simp only [zv,GS.some_l,length_set,length_append,length_cons,length_nil] at *<;>first|assumption|omega)|(simp only [zv,GS.some_l,length_set,length_append,length_cons,length_nil,zd] at *<;>first|assumption|omega)|(simp at *<;>omega)),by simp only [big]<;>(first|assumption|omega|(exact zF (by omega) (by omega))|(exact zt (by omega))|(exact zm (by omega))|(exact zu (by omega))|(exact zn (by omega))|(simp only [zd] at *<;>omega)|(simp only [zv,GS.some_l,length_set,length_append,length_cons,length_nil] at *<;>first|assumption|omega)|(simp only [zv,GS.some_l,length_set,length_append,length_cons,length_nil,zd] at *<;>first|assumption|omega)|(simp at *<;>omega))⟩) (Ai (T_ranges_some xV (w64 (x4.lo - 1))) (Ai (zS (s:=r) (f:=Sn.D) (k:=2) hd4) (Ai (zT hd4) trivial))))) (by kernel_rfl) (by (simp only [sd40,go_sem,length_set,Nat.reduceAdd,Nat.reduceEqDiff,Nat.reduceLT,Nat.reduceLeDiff,bI2,ze.idsL,ze.renL,ze.snapAll,z7.idsL,z7.renL,z7.snapAll])<;>rfl) (lp_ranges_outside_4a r _ (i4+1) ((zh xV (w64 (x4.lo - 1))).l) (w64 (x4.hi+1)) (zi hd4) (zg hd4) (by omega) (by omega)) (by kernel_rfl)
theorem ivt_ranges_outside_4 (r:GS Sn):∀(xm:List Sn) (i4:Nat) (xV:Int) (hd4:r.l.drop i4=xm) (hi4:i4≤r.l.length) (hL4:r.l.length≤1099511627776),iv_ranges_outside_4 r (yf xm xV):=by
 intro xm
 induction xm with
 |nil =>
  intro i4 xV hd4 hi4 hL4
  unfold yf
  obtain rfl:i4=r.l.length:=zW hd4 hi4
  exact trivial
 |cons x4 xm ih =>
  intro i4 xV hd4 hi4 hL4
  have hlt4:=zg hd4
  have hlx:=some1 xV (w64 (x4.lo - 1))
  unfold yf
  cases h4:((zh xV (w64 (x4.lo - 1))).l).isEmpty with
  |true =>
   exact ih (i4+1) (w64 (x4.hi+1)) (zi hd4) (zg hd4) (by omega)
  |false =>
   exact ivt_ranges_outside_4a r _ (i4+1) ((zh xV (w64 (x4.lo - 1))).l) (w64 (x4.hi+1)) (zi hd4) (zg hd4) (by omega) (by omega)

def zc (r:GS Sn):(GS Sn) :=
 match yf r.l (-1099511627776) with
 |.x0 xh xf =>
  bif ((zh xf 1099511627776).l).isEmpty then
   GS.some xh
  else
   GS.some (xh++((zh xf 1099511627776).l))
 |.x1 xV =>
  bif ((zh xV 1099511627776).l).isEmpty then
   GS.nil
  else
   GS.some ((zh xV 1099511627776).l)

def sd41 (r:GS Sn) (xh:List Sn) (xf:Int):St:=⟨28,[(10,B false),(3,.lsl 0 0 xh.length 2 none),(4,I xf),(7,.sl r.nl (r.l.map Sn.D) (zsl r.nl 2) none),(8,I (r.l.length:Int)),(9,I (r.l.length:Int))],[(0,⟨xh.map Sn.D,2,false⟩)],1,0⟩

def ranges_outside_o1 (r:GS Sn) (xh:List Sn) (xf:Int):List Ora:=[.rw 8 (I (r.l.length:Int)),.loop (.exit 0) (sd41 r xh xf),.pure (.sl ((zh xf 1099511627776).nl) (((zh xf 1099511627776).l).map Sn.D) (zsl ((zh xf 1099511627776).nl) 2) none)]

def sd42 (r:GS Sn) (xV:Int):St:=⟨28,[(10,B false),(3,.sl true [] 0 none),(4,I xV),(7,.sl r.nl (r.l.map Sn.D) (zsl r.nl 2) none),(8,I (r.l.length:Int)),(9,I (r.l.length:Int))],[],0,0⟩

def ranges_outside_o2 (r:GS Sn) (xV:Int):List Ora:=[.rw 8 (I (r.l.length:Int)),.loop (.exit 0) (sd42 r xV),.pure (.sl ((zh xV 1099511627776).nl) (((zh xV 1099511627776).l).map Sn.D) (zsl ((zh xV 1099511627776).nl) 2) none)]

theorem T_ranges_outside (r:GS Sn) (hr64:r.l.length≤64) (hL_r:r.l.length≤1099511627776):(lim cfg).pure 91 [GS.D Sn.D 2 r]=some (GS.D Sn.D 2 (zc r)):=by
 unfold zc
 cases h5:yf r.l (-1099511627776) with
 |x0 xh xf =>
  try dsimp only
  have hv_h5:=ivt_ranges_outside_4 r r.l 0 (-1099511627776) (List.drop_zero) (Nat.zero_le _) (by omega)
  rw [h5] at hv_h5
  have hv_h5_0:=hv_h5
  try dsimp only [iv_ranges_outside_4] at hv_h5_0
  have p1:=(y8 (q:=lr_ranges_outside_4 r) (lp_ranges_outside_4 r r.l 0 (-1099511627776) (List.drop_zero) (Nat.zero_le _) (by omega)) h5)
  cases h6:((zh xf 1099511627776).l).isEmpty with
  |true =>
   exact po_pureS ((ranges_outside_o1 r xh xf)++[.op (some 27) ⟨.lsl 0 0 xh.length 2 none,[],[],1⟩]) [(0,.sl false (xh.map Sn.D) 2 none,[0])] (Ai (snap_row (gO:=zw [(0,⟨xh.map Sn.D,2,false⟩)]) (o:=0) (len:=xh.length) (cap:=none) (fz:=false) z7 xh (by kernel_rfl) (by omega)) (Ai (app_none (te:=zR) (gO:=zw [(0,⟨xh.map Sn.D,2,false⟩)]) (nxt:=1) (f:=Sn.D) (sz:=2) (d:=.lsl 0 0 xh.length 2 none) (zh xf 1099511627776) h6 rfl) (Ai (T_ranges_some xf 1099511627776) (Ai p1 (Ai (zk Sn.D r) trivial))))) (by kernel_rfl)
  |false =>
   exact po_pureS ((ranges_outside_o1 r xh xf)++[.op (some 27) ⟨.lsl 1 0 ((xh++((zh xf 1099511627776).l)).length) 2 none,[(0,none),(1,some ⟨(xh++((zh xf 1099511627776).l)).map Sn.D,2,false⟩)],[0],2⟩]) [(1,.sl false ((xh++((zh xf 1099511627776).l)).map Sn.D) 2 none,[1])] (Ai (snap_row (gO:=zw [(1,⟨(xh++((zh xf 1099511627776).l)).map Sn.D,2,false⟩)]) (o:=1) (len:=(xh++((zh xf 1099511627776).l)).length) (cap:=none) (fz:=false) z7 (xh++((zh xf 1099511627776).l)) (by kernel_rfl) (by omega)) (Ai (app_moreD (te:=zR) (gO:=zw [(0,⟨xh.map Sn.D,2,false⟩)]) (nxt:=1) (o:=0) (v:=xh) z7 (zh xf 1099511627776) h6 (by kernel_rfl) rfl (by kernel_rfl) (by decide) ⟨by simp only [zR,big]<;>(first|assumption|omega|(exact zF (by omega) (by omega))|(exact zt (by omega))|(exact zm (by omega))|(exact zu (by omega))|(exact zn (by omega))|(simp only [zd] at *<;>omega)|(simp only [zv,GS.some_l,length_set,length_append,length_cons,length_nil] at *<;>first|assumption|omega)|(simp only [zv,GS.some_l,length_set,length_append,length_cons,length_nil,zd] at *<;>first|assumption|omega)|(simp at *<;>omega)),by simp only [big]<;>(first|assumption|omega|(exact zF (by omega) (by omega))|(exact zt (by omega))|(exact zm (by omega))|(exact zu (by omega))|(exact zn (by omega))|(simp only [zd] at *<;>omega)|(simp only [zv,GS.some_l,length_set,length_append,length_cons,length_nil] at *<;>first|assumption|omega)|(simp only [zv,GS.some_l,length_set,length_append,length_cons,length_nil,zd] at *<;>first|assumption|omega)|(simp at *<;>omega))⟩) (Ai (T_ranges_some xf 1099511627776) (Ai p1 (Ai (zk Sn.D r) trivial))))) (by kernel_rfl)
 |x1 xV =>
  try dsimp only
  have p2:=(y8 (q:=lr_ranges_outside_4 r) (lp_ranges_outside_4 r r.l 0 (-1099511627776) (List.drop_zero) (Nat.zero_le _) (by omega)) h5)
  cases h7:((zh xV 1099511627776).l).isEmpty with
  |true =>
   exact zp ((ranges_outside_o2 r xV)++[.op (some 27) ⟨.sl true [] 0 none,[],[],0⟩]) (Ai (app_none (te:=zR) (gO:=zw []) (nxt:=0) (f:=Sn.D) (sz:=2) (d:=.sl true [] 0 none) (zh xV 1099511627776) h7 rfl) (Ai (T_ranges_some xV 1099511627776) (Ai p2 (Ai (zk Sn.D r) trivial)))) (by kernel_rfl)
  |false =>
   exact po_pureS ((ranges_outside_o2 r xV)++[.op (some 27) ⟨.lsl 0 0 (((zh xV 1099511627776).l).length) 2 none,[(0,some ⟨((zh xV 1099511627776).l).map Sn.D,2,false⟩)],[],1⟩]) [(0,.sl false (((zh xV 1099511627776).l).map Sn.D) 2 none,[0])] (Ai (snap_row (gO:=zw [(0,⟨((zh xV 1099511627776).l).map Sn.D,2,false⟩)]) (o:=0) (len:=((zh xV 1099511627776).l).length) (cap:=none) (fz:=false) z7 ((zh xV 1099511627776).l) (by kernel_rfl) (by omega)) (Ai (app_newD (te:=zR) (gO:=zw []) (nxt:=0) (els0:=[]) (sz0:=0) (cap0:=none) z7 (zh xV 1099511627776) h7 rfl (by kernel_rfl) (by decide) ⟨by simp only [zR,big]<;>(first|assumption|omega|(exact zF (by omega) (by omega))|(exact zt (by omega))|(exact zm (by omega))|(exact zu (by omega))|(exact zn (by omega))|(simp only [zd] at *<;>omega)|(simp only [zv,GS.some_l,length_set,length_append,length_cons,length_nil] at *<;>first|assumption|omega)|(simp only [zv,GS.some_l,length_set,length_append,length_cons,length_nil,zd] at *<;>first|assumption|omega)|(simp at *<;>omega)),by simp only [big]<;>(first|assumption|omega|(exact zF (by omega) (by omega))|(exact zt (by omega))|(exact zm (by omega))|(exact zu (by omega))|(exact zn (by omega))|(simp only [zd] at *<;>omega)|(simp only [zv,GS.some_l,length_set,length_append,length_cons,length_nil] at *<;>first|assumption|omega)|(simp only [zv,GS.some_l,length_set,length_append,length_cons,length_nil,zd] at *<;>first|assumption|omega)|(simp at *<;>omega))⟩) (Ai (T_ranges_some xV 1099511627776) (Ai p2 (Ai (zk Sn.D r) trivial))))) (by kernel_rfl)
end Go.VS

namespace Go.VS
open List (length_set length_append length_cons length_nil)
open Go Go.Proofs
noncomputable def lp87_6:Code:=subC [1,0,1,1,0,1,0,0,1,1,0,0,1,1,0,0] (bodyC Tryz.f87)

noncomputable def lp87_3:Code:=subC [1,0,1,1,0,1,0,0] (bodyC Tryz.f87)

def sd63 (xH:List Sn) (yY:Nat) (yU:List Sn) (yN:Sn) (yu:List Sn):St:=⟨65,[(12,I ((yY+1:Nat):Int)),(60,I ((yY+1:Nat):Int)),(55,.lref 2 ((w64 ((yu.length:Int) - 1)).toNat) 2 1),(54,.lref 2 ((w64 ((yu.length:Int) - 1)).toNat) 2 0),(53,I (zN ((yu.getD ((w64 ((yu.length:Int) - 1)).toNat) default).hi) yN.hi)),(52,I yN.hi),(51,.lref 3 0 2 1),(50,I ((yu.getD ((w64 ((yu.length:Int) - 1)).toNat) default).hi)),(49,.lref 2 ((w64 ((yu.length:Int) - 1)).toNat) 2 1),(48,.lref 2 ((w64 ((yu.length:Int) - 1)).toNat) 2 0),(47,I (w64 ((yu.length:Int) - 1))),(46,I (yu.length:Int)),(45,.lsl 2 0 yu.length 2 none),(44,I (w64 ((yu.length:Int) - 1))),(43,I (yu.length:Int)),(42,.lsl 2 0 yu.length 2 none),(41,B true),(40,B true),(39,I (w64 (((yu.getD ((w64 ((yu.length:Int) - 1)).toNat) default).hi)+1))),(38,I ((yu.getD ((w64 ((yu.length:Int) - 1)).toNat) default).hi)),(37,.lref 2 ((w64 ((yu.length:Int) - 1)).toNat) 2 1),(36,.lref 2 ((w64 ((yu.length:Int) - 1)).toNat) 2 0),(35,I (w64 ((yu.length:Int) - 1))),(34,I (yu.length:Int)),(33,.lsl 2 0 yu.length 2 none),(32,I yN.lo),(31,.lref 3 0 2 0),(30,B true),(29,B true),(28,I (yu.length:Int)),(7,I (yu.length:Int)),(27,I (yu.length:Int)),(26,.lsl 2 0 yu.length 2 none),(25,B false),(24,B false),(23,B true),(22,I yN.hi),(21,.lref 3 0 2 1),(20,B false),(19,B false),(18,B true),(17,I yN.lo),(16,.lref 3 0 2 0),(6,.lref 3 0 2 0),(15,.agg [I yN.lo,I yN.hi]),(14,.lref 1 yY 2 0),(13,B true),(4,.lsl 2 0 yu.length 2 none),(10,.lsl 1 0 xH.length 2 none),(11,I (xH.length:Int)),(12,I (yY:Int))],[(1,⟨yU.map Sn.D,2,false⟩),(2,⟨(yu.set ((w64 ((yu.length:Int) - 1)).toNat) (⟨(yu.getD ((w64 ((yu.length:Int) - 1)).toNat) default).lo,zN ((yu.getD ((w64 ((yu.length:Int) - 1)).toNat) default).hi) yN.hi⟩:Sn)).map Sn.D,2,false⟩),(3,⟨[.agg [I yN.lo,I yN.hi]],2,false⟩)],4,2⟩

def sd64 (xH:List Sn) (yY:Nat) (yU:List Sn) (yN:Sn) (yu:List Sn):St:=⟨65,[(12,I ((yY+1:Nat):Int)),(60,I ((yY+1:Nat):Int)),(4,.lsl 5 0 ((yu++[yN]).length) 2 none),(59,.lsl 5 0 ((yu++[yN]).length) 2 none),(58,.lsl 4 0 1 2 (some 1)),(57,.agg [I yN.lo,I yN.hi]),(56,.lsl 2 0 yu.length 2 none),(41,B false),(40,B false),(39,I (w64 (((yu.getD ((w64 ((yu.length:Int) - 1)).toNat) default).hi)+1))),(38,I ((yu.getD ((w64 ((yu.length:Int) - 1)).toNat) default).hi)),(37,.lref 2 ((w64 ((yu.length:Int) - 1)).toNat) 2 1),(36,.lref 2 ((w64 ((yu.length:Int) - 1)).toNat) 2 0),(35,I (w64 ((yu.length:Int) - 1))),(34,I (yu.length:Int)),(33,.lsl 2 0 yu.length 2 none),(32,I yN.lo),(31,.lref 3 0 2 0),(30,B true),(29,B true),(28,I (yu.length:Int)),(7,I (yu.length:Int)),(27,I (yu.length:Int)),(26,.lsl 2 0 yu.length 2 none),(25,B false),(24,B false),(23,B true),(22,I yN.hi),(21,.lref 3 0 2 1),(20,B false),(19,B false),(18,B true),(17,I yN.lo),(16,.lref 3 0 2 0),(6,.lref 3 0 2 0),(15,.agg [I yN.lo,I yN.hi]),(14,.lref 1 yY 2 0),(13,B true),(4,.lsl 2 0 yu.length 2 none),(10,.lsl 1 0 xH.length 2 none),(11,I (xH.length:Int)),(12,I (yY:Int))],[(1,⟨yU.map Sn.D,2,false⟩),(3,⟨[.agg [I yN.lo,I yN.hi]],2,false⟩),(4,⟨[.agg [I yN.lo,I yN.hi]],2,false⟩),(5,⟨(yu++[yN]).map Sn.D,2,false⟩)],6,2⟩

def sd65 (xH:List Sn) (yY:Nat) (yU:List Sn) (yN:Sn) (yu:List Sn):St:=⟨65,[(12,I ((yY+1:Nat):Int)),(60,I ((yY+1:Nat):Int)),(4,.lsl 5 0 ((yu++[yN]).length) 2 none),(59,.lsl 5 0 ((yu++[yN]).length) 2 none),(58,.lsl 4 0 1 2 (some 1)),(57,.agg [I yN.lo,I yN.hi]),(56,.lsl 2 0 yu.length 2 none),(41,B false),(40,.tup []),(39,.tup []),(38,.tup []),(37,.tup []),(36,.tup []),(35,.tup []),(34,.tup []),(33,.tup []),(32,.tup []),(31,.tup []),(30,B false),(29,B false),(28,I (yu.length:Int)),(7,I (yu.length:Int)),(27,I (yu.length:Int)),(26,.lsl 2 0 yu.length 2 none),(25,B false),(24,B false),(23,B true),(22,I yN.hi),(21,.lref 3 0 2 1),(20,B false),(19,B false),(18,B true),(17,I yN.lo),(16,.lref 3 0 2 0),(6,.lref 3 0 2 0),(15,.agg [I yN.lo,I yN.hi]),(14,.lref 1 yY 2 0),(13,B true),(4,.lsl 2 0 yu.length 2 none),(10,.lsl 1 0 xH.length 2 none),(11,I (xH.length:Int)),(12,I (yY:Int))],[(1,⟨yU.map Sn.D,2,false⟩),(3,⟨[.agg [I yN.lo,I yN.hi]],2,false⟩),(4,⟨[.agg [I yN.lo,I yN.hi]],2,false⟩),(5,⟨(yu++[yN]).map Sn.D,2,false⟩)],6,2⟩

def sd66 (xH:List Sn) (yY:Nat) (yU:List Sn) (yN:Sn):St:=⟨65,[(12,I ((yY+1:Nat):Int)),(60,I ((yY+1:Nat):Int)),(4,.lsl 4 0 1 2 none),(59,.lsl 4 0 1 2 none),(58,.lsl 3 0 1 2 (some 1)),(57,.agg [I yN.lo,I yN.hi]),(56,.sl true [] 0 none),(41,B false),(40,.tup []),(39,.tup []),(38,.tup []),(37,.tup []),(36,.tup []),(35,.tup []),(34,.tup []),(33,.tup []),(32,.tup []),(31,.tup []),(30,B false),(29,B false),(28,I 0),(7,I 0),(27,I 0),(26,.sl true [] 0 none),(25,B false),(24,B false),(23,B true),(22,I yN.hi),(21,.lref 2 0 2 1),(20,B false),(19,B false),(18,B true),(17,I yN.lo),(16,.lref 2 0 2 0),(6,.lref 2 0 2 0),(15,.agg [I yN.lo,I yN.hi]),(14,.lref 1 yY 2 0),(13,B true),(4,.sl true [] 0 none),(10,.lsl 1 0 xH.length 2 none),(11,I (xH.length:Int)),(12,I (yY:Int))],[(1,⟨yU.map Sn.D,2,false⟩),(2,⟨[.agg [I yN.lo,I yN.hi]],2,false⟩),(3,⟨[.agg [I yN.lo,I yN.hi]],2,false⟩),(4,⟨[.agg [I yN.lo,I yN.hi]],2,false⟩)],5,2⟩

inductive LR_ranges_gathered_4p1 where
 |x0 (yu:List Sn)
 |x1 (yY:Nat) (yN:Sn) (yu:List Sn)
 |x2 (yY:Nat) (yN:Sn) (yu:List Sn)
 |x3
 |x4 (yY:Nat) (yN:Sn)
 |x5 (yY:Nat) (yN:Sn)
instance:Inhabited LR_ranges_gathered_4p1:=⟨.x0 default⟩
def zZ:List Sn→Nat→(List Sn)→LR_ranges_gathered_4p1
 |[],yY,yu=>.x0 yu
 |yN::xq,yY,yu =>
  bif (zq yN.lo) then
   bif (zq yN.hi) then
    bif decide ((yu.length:Int)>0) then
     bif decide (yN.lo≤(w64 (((yu.getD ((w64 ((yu.length:Int) - 1)).toNat) default).hi)+1))) then
      zZ xq (yY+1) (yu.set ((w64 ((yu.length:Int) - 1)).toNat) (⟨(yu.getD ((w64 ((yu.length:Int) - 1)).toNat) default).lo,zN ((yu.getD ((w64 ((yu.length:Int) - 1)).toNat) default).hi) yN.hi⟩:Sn))
     else
      zZ xq (yY+1) (yu++[yN])
    else
     zZ xq (yY+1) (yu++[yN])
   else
    .x1 yY yN yu
  else
   .x2 yY yN yu
def zY:List Sn→Nat→LR_ranges_gathered_4p1
 |[],yY=>.x3
 |yN::xq,yY =>
  bif (zq yN.lo) then
   bif (zq yN.hi) then
    zZ xq (yY+1) [yN]
   else
    .x4 yY yN
  else
   .x5 yY yN
def zH (xH:List Sn) (yU:List Sn):LR_ranges_gathered_4p1→Exit × St
 |.x0 yu=>((.exit 0),⟨65,[(13,B false),(4,.lsl 2 0 yu.length 2 none),(10,.lsl 1 0 xH.length 2 none),(11,I (xH.length:Int)),(12,I (yU.length:Int))],[(1,⟨yU.map Sn.D,2,false⟩),(2,⟨yu.map Sn.D,2,false⟩)],3,2⟩)
 |.x1 yY yN yu=>(.ret,⟨65,[(3,I 2),(2,.sl true [] 0 none),(25,B true),(24,B true),(23,B false),(22,I yN.hi),(21,.lref 3 0 2 1),(20,B false),(19,B false),(18,B true),(17,I yN.lo),(16,.lref 3 0 2 0),(6,.lref 3 0 2 0),(15,.agg [I yN.lo,I yN.hi]),(14,.lref 1 yY 2 0),(13,B true),(4,.lsl 2 0 yu.length 2 none),(10,.lsl 1 0 xH.length 2 none),(11,I (xH.length:Int)),(12,I (yY:Int))],[(1,⟨yU.map Sn.D,2,false⟩),(2,⟨yu.map Sn.D,2,false⟩),(3,⟨[.agg [I yN.lo,I yN.hi]],2,false⟩)],4,2⟩)
 |.x2 yY yN yu=>(.ret,⟨65,[(3,I 2),(2,.sl true [] 0 none),(25,B true),(24,.tup []),(23,.tup []),(22,.tup []),(21,.tup []),(20,B true),(19,B true),(18,B false),(17,I yN.lo),(16,.lref 3 0 2 0),(6,.lref 3 0 2 0),(15,.agg [I yN.lo,I yN.hi]),(14,.lref 1 yY 2 0),(13,B true),(4,.lsl 2 0 yu.length 2 none),(10,.lsl 1 0 xH.length 2 none),(11,I (xH.length:Int)),(12,I (yY:Int))],[(1,⟨yU.map Sn.D,2,false⟩),(2,⟨yu.map Sn.D,2,false⟩),(3,⟨[.agg [I yN.lo,I yN.hi]],2,false⟩)],4,2⟩)
 |.x3=>((.exit 0),⟨65,[(13,B false),(4,.sl true [] 0 none),(10,.lsl 1 0 xH.length 2 none),(11,I (xH.length:Int)),(12,I (yU.length:Int))],[(1,⟨yU.map Sn.D,2,false⟩)],2,2⟩)
 |.x4 yY yN=>(.ret,⟨65,[(3,I 2),(2,.sl true [] 0 none),(25,B true),(24,B true),(23,B false),(22,I yN.hi),(21,.lref 2 0 2 1),(20,B false),(19,B false),(18,B true),(17,I yN.lo),(16,.lref 2 0 2 0),(6,.lref 2 0 2 0),(15,.agg [I yN.lo,I yN.hi]),(14,.lref 1 yY 2 0),(13,B true),(4,.sl true [] 0 none),(10,.lsl 1 0 xH.length 2 none),(11,I (xH.length:Int)),(12,I (yY:Int))],[(1,⟨yU.map Sn.D,2,false⟩),(2,⟨[.agg [I yN.lo,I yN.hi]],2,false⟩)],3,2⟩)
 |.x5 yY yN=>(.ret,⟨65,[(3,I 2),(2,.sl true [] 0 none),(25,B true),(24,.tup []),(23,.tup []),(22,.tup []),(21,.tup []),(20,B true),(19,B true),(18,B false),(17,I yN.lo),(16,.lref 2 0 2 0),(6,.lref 2 0 2 0),(15,.agg [I yN.lo,I yN.hi]),(14,.lref 1 yY 2 0),(13,B true),(4,.sl true [] 0 none),(10,.lsl 1 0 xH.length 2 none),(11,I (xH.length:Int)),(12,I (yY:Int))],[(1,⟨yU.map Sn.D,2,false⟩),(2,⟨[.agg [I yN.lo,I yN.hi]],2,false⟩)],3,2⟩)
def zP (xH:List Sn) (yU:List Sn):LR_ranges_gathered_4p1→Prop
 |.x0 yu=>(1≤yu.length)∧(yu.length≤yU.length)
 |.x1 yY yN yu=>(1≤yu.length)∧(yu.length≤yY)
 |.x2 yY yN yu=>(1≤yu.length)∧(yu.length≤yY)
 |.x3=>True
 |.x4 yY yN=>True
 |.x5 yY yN=>True
def ranges_gathered_4p1a_l_o1 (yY:Nat) (yN:Sn):List Ora:=[.dec true,.op (some 14) ⟨.lref 1 yY 2 0,[],[],3⟩,.op (some 15) ⟨.agg [I yN.lo,I yN.hi],[],[1],3⟩,.pure (B (zq yN.lo))]
def ranges_gathered_4p1a_l_o2 (yN:Sn) (yu:List Sn):List Ora:=[.dec true,.pure (B (zq yN.hi)),.dec true,.dec true,.op (some 36) ⟨.lref 2 ((w64 ((yu.length:Int) - 1)).toNat) 2 0,[],[],4⟩,.op (some 38) ⟨I ((yu.getD ((w64 ((yu.length:Int) - 1)).toNat) default).hi),[],[2],4⟩]
theorem lp_ranges_gathered_4p1a (xH:List Sn) (yU:List Sn):∀(xq:List Sn) (yY:Nat) (yu:List Sn) (xC:yU.drop yY=xq) (hi4p1:yY≤yU.length) (hz4p1_va4p1_0:1≤yu.length) (hq4p1:yU.length=xH.length) (hg4p1_va4p1_0:yu.length≤yY) (hL4p1:yU.length≤1099511627776),(lim cfg).loop 69 lp69_4 ⟨65,[(4,.lsl 2 0 yu.length 2 none),(10,.lsl 1 0 xH.length 2 none),(11,I (xH.length:Int)),(12,I (yY:Int))],[(1,⟨yU.map Sn.D,2,false⟩),(2,⟨yu.map Sn.D,2,false⟩)],3,2⟩=some (zH xH yU (zZ xq yY yu)):=by
 intro xq
 induction xq with
 |nil =>
  intro yY yu xC hi4p1 hz4p1_va4p1_0 hq4p1 hg4p1_va4p1_0 hL4p1
  unfold zZ
  obtain rfl:yY=yU.length:=zW xC hi4p1
  exact zD [.dec false] (Ai (lt_no' xC hq4p1) trivial) (by kernel_rfl)
 |cons yN xq ih =>
  intro yY yu xC hi4p1 hz4p1_va4p1_0 hq4p1 hg4p1_va4p1_0 hL4p1
  have hlt4p1:=zg xC
  unfold zZ
  have p1:=(idx_row (C:=cfg) (nxt:=3) (t:=22) (ty:=ty22) (te:=zR) (e:=25) (o:=1) (len:=xH.length) (sz:=2) (cap:=none) (i:=(yY:Int)) (by kernel_rfl) rfl (by kernel_rfl) rfl (by omega) (by omega))
  have p2:=(load_row (C:=cfg) (objs:=[(1,⟨yU.map Sn.D,2,false⟩),(2,⟨yu.map Sn.D,2,false⟩)]) (nxt:=3) (t:=25) (ty:=zR) (o:=1) (n:=yY) (sz:=2) (sub:=0) (ob:=⟨yU.map Sn.D,2,false⟩) (e:=Sn.D yN) (d:=.agg [I yN.lo,I yN.hi]) (by kernel_rfl) (by kernel_rfl) rfl (row_at (f:=Sn.D) xC) (by kernel_rfl))
  cases h25:(zq yN.lo) with
  |true =>
   cases h26:(zq yN.hi) with
   |true =>
    cases h27:decide ((yu.length:Int)>0) with
    |true =>
     have g27:=of_decide_eq_true h27
     have p3:=(idx_row (C:=cfg) (nxt:=4) (t:=23) (ty:=ty23) (te:=zR) (e:=25) (o:=2) (len:=yu.length) (sz:=2) (cap:=none) (i:=w64 ((yu.length:Int) - 1)) (by kernel_rfl) rfl (by kernel_rfl) rfl (by simp only [length_append,length_cons,length_nil,zd] at *<;>omega) (by simp only [length_append,length_cons,length_nil,zd] at *<;>omega))
     have p4:=(load_row (C:=cfg) (objs:=[(1,⟨yU.map Sn.D,2,false⟩),(2,⟨yu.map Sn.D,2,false⟩),(3,⟨[.agg [I yN.lo,I yN.hi]],2,false⟩)]) (nxt:=4) (t:=3) (ty:=ty3) (o:=2) (n:=(w64 ((yu.length:Int) - 1)).toNat) (sz:=2) (sub:=1) (ob:=⟨yu.map Sn.D,2,false⟩) (e:=Sn.D (yu.getD ((w64 ((yu.length:Int) - 1)).toNat) default)) (d:=I ((yu.getD ((w64 ((yu.length:Int) - 1)).toNat) default).hi)) (by kernel_rfl) (by kernel_rfl) rfl (row_get (f:=Sn.D) (by simp only [length_append,length_cons,length_nil,zd] at *<;>omega)) (by kernel_rfl))
     cases h28:decide (yN.lo≤(w64 (((yu.getD ((w64 ((yu.length:Int) - 1)).toNat) default).hi)+1))) with
     |true =>
      have g28:=of_decide_eq_true h28
      exact zz (ks:=[4,10,11,12]) (st':=(sd63 xH yY yU yN yu)) ((ranges_gathered_4p1a_l_o1 yY yN)++((ranges_gathered_4p1a_l_o2 yN yu)++[.dec true,.op (some 48) ⟨.lref 2 ((w64 ((yu.length:Int) - 1)).toNat) 2 0,[],[],4⟩,.op (some 50) ⟨I ((yu.getD ((w64 ((yu.length:Int) - 1)).toNat) default).hi),[],[2],4⟩,.op (some 54) ⟨.lref 2 ((w64 ((yu.length:Int) - 1)).toNat) 2 0,[],[],4⟩,.stS 2 ⟨.tup [],[(2,some ⟨(yu.set ((w64 ((yu.length:Int) - 1)).toNat) (⟨(yu.getD ((w64 ((yu.length:Int) - 1)).toNat) default).lo,zN ((yu.getD ((w64 ((yu.length:Int) - 1)).toNat) default).hi) yN.hi⟩:Sn)).map Sn.D,2,false⟩)],[2],4⟩,.rw 60 (I ((yY+1:Nat):Int))])) (Ai (zM (i:=yY) (by have:=zg xC;omega)) (Ai (store_row (C:=cfg) (objs:=[(1,⟨yU.map Sn.D,2,false⟩),(2,⟨yu.map Sn.D,2,false⟩),(3,⟨[.agg [I yN.lo,I yN.hi]],2,false⟩)]) (nxt:=4) (t:=3) (ty:=ty3) (o:=2) (n:=(w64 ((yu.length:Int) - 1)).toNat) (sz:=2) (sub:=1) (els:=yu.map Sn.D) (els':=(yu.set ((w64 ((yu.length:Int) - 1)).toNat) (⟨(yu.getD ((w64 ((yu.length:Int) - 1)).toNat) default).lo,zN ((yu.getD ((w64 ((yu.length:Int) - 1)).toNat) default).hi) yN.hi⟩:Sn)).map Sn.D) (e:=Sn.D (yu.getD ((w64 ((yu.length:Int) - 1)).toNat) default)) (e':=Sn.D (⟨(yu.getD ((w64 ((yu.length:Int) - 1)).toNat) default).lo,zN ((yu.getD ((w64 ((yu.length:Int) - 1)).toNat) default).hi) yN.hi⟩:Sn)) (v:=I (zN ((yu.getD ((w64 ((yu.length:Int) - 1)).toNat) default).hi) yN.hi)) (by kernel_rfl) (by kernel_rfl) (row_get (f:=Sn.D) (by simp only [length_append,length_cons,length_nil,zd] at *<;>omega)) rfl (by kernel_rfl) rfl (by kernel_rfl) (row_set (f:=Sn.D))) (Ai (idx_row (C:=cfg) (nxt:=4) (t:=23) (ty:=ty23) (te:=zR) (e:=25) (o:=2) (len:=yu.length) (sz:=2) (cap:=none) (i:=w64 ((yu.length:Int) - 1)) (by kernel_rfl) rfl (by kernel_rfl) rfl (by simp only [length_append,length_cons,length_nil,zd] at *<;>omega) (by simp only [length_append,length_cons,length_nil,zd] at *<;>omega)) (Ai (load_row (C:=cfg) (objs:=[(1,⟨yU.map Sn.D,2,false⟩),(2,⟨yu.map Sn.D,2,false⟩),(3,⟨[.agg [I yN.lo,I yN.hi]],2,false⟩)]) (nxt:=4) (t:=3) (ty:=ty3) (o:=2) (n:=(w64 ((yu.length:Int) - 1)).toNat) (sz:=2) (sub:=1) (ob:=⟨yu.map Sn.D,2,false⟩) (e:=Sn.D (yu.getD ((w64 ((yu.length:Int) - 1)).toNat) default)) (d:=I ((yu.getD ((w64 ((yu.length:Int) - 1)).toNat) default).hi)) (by kernel_rfl) (by kernel_rfl) rfl (row_get (f:=Sn.D) (by simp only [length_append,length_cons,length_nil,zd] at *<;>omega)) (by kernel_rfl)) (Ai (idx_row (C:=cfg) (nxt:=4) (t:=23) (ty:=ty23) (te:=zR) (e:=25) (o:=2) (len:=yu.length) (sz:=2) (cap:=none) (i:=w64 ((yu.length:Int) - 1)) (by kernel_rfl) rfl (by kernel_rfl) rfl (by simp only [length_append,length_cons,length_nil,zd] at *<;>omega) (by simp only [length_append,length_cons,length_nil,zd] at *<;>omega)) (Ai h28 (Ai p4 (Ai p3 (Ai h27 (Ai h26 (Ai (zA yN.hi) (Ai h25 (Ai (zA yN.lo) (Ai p2 (Ai p1 (Ai (lt_at' xC hq4p1) trivial)))))))))))))))) (by kernel_rfl) (by (simp only [sd63,go_sem,length_set,Nat.reduceAdd,Nat.reduceEqDiff,Nat.reduceLT,Nat.reduceLeDiff,bI2,ze.idsL,ze.renL,ze.snapAll,z7.idsL,z7.renL,z7.snapAll])<;>rfl) (ih (yY+1) (yu.set ((w64 ((yu.length:Int) - 1)).toNat) (⟨(yu.getD ((w64 ((yu.length:Int) - 1)).toNat) default).lo,zN ((yu.getD ((w64 ((yu.length:Int) - 1)).toNat) default).hi) yN.hi⟩:Sn)) (zi xC) (zg xC) (by simp only [length_set] at *<;>omega) (by omega) (by simp only [length_set] at *<;>omega) (by omega)) (by kernel_rfl)
     |false =>
      have g28:=of_decide_eq_false h28
      exact zz (ks:=[4,10,11,12]) (st':=(sd64 xH yY yU yN yu)) ((ranges_gathered_4p1a_l_o1 yY yN)++((ranges_gathered_4p1a_l_o2 yN yu)++[.dec false,.op (some 59) ⟨.lsl 5 0 ((yu++[yN]).length) 2 none,[(2,none),(5,some ⟨(yu++[yN]).map Sn.D,2,false⟩)],[2,4],6⟩,.rw 60 (I ((yY+1:Nat):Int))])) (Ai (zM (i:=yY) (by have:=zg xC;omega)) (Ai (app_row (f:=Sn.D) (te:=zR) (gO:=zw [(1,⟨yU.map Sn.D,2,false⟩),(2,⟨yu.map Sn.D,2,false⟩),(3,⟨[.agg [I yN.lo,I yN.hi]],2,false⟩),(4,⟨[.agg [I yN.lo,I yN.hi]],2,false⟩)]) (nxt:=5) (o:=2) (o2:=4) (fz:=false) z7 yu yN (by kernel_rfl) (by kernel_rfl) rfl (by kernel_rfl) (by decide) ⟨by simp only [zR,big]<;>(first|assumption|omega|(exact zF (by omega) (by omega))|(exact zt (by omega))|(exact zm (by omega))|(exact zu (by omega))|(exact zn (by omega))|(simp only [zd] at *<;>omega)|(simp only [zv,GS.some_l,length_set,length_append,length_cons,length_nil] at *<;>first|assumption|omega)|(simp only [zv,GS.some_l,length_set,length_append,length_cons,length_nil,zd] at *<;>first|assumption|omega)|(simp at *<;>omega)),by simp only [big]<;>(first|assumption|omega|(exact zF (by omega) (by omega))|(exact zt (by omega))|(exact zm (by omega))|(exact zu (by omega))|(exact zn (by omega))|(simp only [zd] at *<;>omega)|(simp only [zv,GS.some_l,length_set,length_append,length_cons,length_nil] at *<;>first|assumption|omega)|(simp only [zv,GS.some_l,length_set,length_append,length_cons,length_nil,zd] at *<;>first|assumption|omega)|(simp at *<;>omega))⟩) (Ai h28 (Ai p4 (Ai p3 (Ai h27 (Ai h26 (Ai (zA yN.hi) (Ai h25 (Ai (zA yN.lo) (Ai p2 (Ai p1 (Ai (lt_at' xC hq4p1) trivial))))))))))))) (by kernel_rfl) (by (simp only [sd64,go_sem,length_set,Nat.reduceAdd,Nat.reduceEqDiff,Nat.reduceLT,Nat.reduceLeDiff,bI2,ze.idsL,ze.renL,ze.snapAll,z7.idsL,z7.renL,z7.snapAll])<;>rfl) (ih (yY+1) (yu++[yN]) (zi xC) (zg xC) (by simp only [length_append,length_cons,length_nil] at *<;>omega) (by omega) (by simp only [length_append,length_cons,length_nil] at *<;>omega) (by omega)) (by kernel_rfl)
    |false =>
     have g27:=of_decide_eq_false h27
     exact zz (ks:=[4,10,11,12]) (st':=(sd65 xH yY yU yN yu)) ((ranges_gathered_4p1a_l_o1 yY yN)++[.dec true,.pure (B (zq yN.hi)),.dec true,.dec false,.op (some 59) ⟨.lsl 5 0 ((yu++[yN]).length) 2 none,[(2,none),(5,some ⟨(yu++[yN]).map Sn.D,2,false⟩)],[2,4],6⟩,.rw 60 (I ((yY+1:Nat):Int))]) (Ai (zM (i:=yY) (by have:=zg xC;omega)) (Ai (app_row (f:=Sn.D) (te:=zR) (gO:=zw [(1,⟨yU.map Sn.D,2,false⟩),(2,⟨yu.map Sn.D,2,false⟩),(3,⟨[.agg [I yN.lo,I yN.hi]],2,false⟩),(4,⟨[.agg [I yN.lo,I yN.hi]],2,false⟩)]) (nxt:=5) (o:=2) (o2:=4) (fz:=false) z7 yu yN (by kernel_rfl) (by kernel_rfl) rfl (by kernel_rfl) (by decide) ⟨by simp only [zR,big]<;>(first|assumption|omega|(exact zF (by omega) (by omega))|(exact zt (by omega))|(exact zm (by omega))|(exact zu (by omega))|(exact zn (by omega))|(simp only [zd] at *<;>omega)|(simp only [zv,GS.some_l,length_set,length_append,length_cons,length_nil] at *<;>first|assumption|omega)|(simp only [zv,GS.some_l,length_set,length_append,length_cons,length_nil,zd] at *<;>first|assumption|omega)|(simp at *<;>omega)),by simp only [big]<;>(first|assumption|omega|(exact zF (by omega) (by omega))|(exact zt (by omega))|(exact zm (by omega))|(exact zu (by omega))|(exact zn (by omega))|(simp only [zd] at *<;>omega)|(simp only [zv,GS.some_l,length_set,length_append,length_cons,length_nil] at *<;>first|assumption|omega)|(simp only [zv,GS.some_l,length_set,length_append,length_cons,length_nil,zd] at *<;>first|assumption|omega)|(simp at *<;>omega))⟩) (Ai h27 (Ai h26 (Ai (zA yN.hi) (Ai h25 (Ai (zA yN.lo) (Ai p2 (Ai p1 (Ai (lt_at' xC hq4p1) trivial)))))))))) (by kernel_rfl) (by (simp only [sd65,go_sem,length_set,Nat.reduceAdd,Nat.reduceEqDiff,Nat.reduceLT,Nat.reduceLeDiff,bI2,ze.idsL,ze.renL,ze.snapAll,z7.idsL,z7.renL,z7.snapAll])<;>rfl) (ih (yY+1) (yu++[yN]) (zi xC) (zg xC) (by omega) (by omega) (by omega) (by omega)) (by kernel_rfl)
   |false =>
    exact zD ((ranges_gathered_4p1a_l_o1 yY yN)++[.dec true,.pure (B (zq yN.hi)),.dec false]) (Ai h26 (Ai (zA yN.hi) (Ai h25 (Ai (zA yN.lo) (Ai p2 (Ai p1 (Ai (lt_at' xC hq4p1) trivial))))))) (by kernel_rfl)
  |false =>
   exact zD ((ranges_gathered_4p1a_l_o1 yY yN)++[.dec false]) (Ai h25 (Ai (zA yN.lo) (Ai p2 (Ai p1 (Ai (lt_at' xC hq4p1) trivial))))) (by kernel_rfl)
theorem ivt_ranges_gathered_4p1a (xH:List Sn) (yU:List Sn):∀(xq:List Sn) (yY:Nat) (yu:List Sn) (xC:yU.drop yY=xq) (hi4p1:yY≤yU.length) (hz4p1_va4p1_0:1≤yu.length) (hq4p1:yU.length=xH.length) (hg4p1_va4p1_0:yu.length≤yY) (hL4p1:yU.length≤1099511627776),zP xH yU (zZ xq yY yu):=by
 intro xq
 induction xq with
 |nil =>
  intro yY yu xC hi4p1 hz4p1_va4p1_0 hq4p1 hg4p1_va4p1_0 hL4p1
  unfold zZ
  obtain rfl:yY=yU.length:=zW xC hi4p1
  exact ⟨hz4p1_va4p1_0,hg4p1_va4p1_0⟩
 |cons yN xq ih =>
  intro yY yu xC hi4p1 hz4p1_va4p1_0 hq4p1 hg4p1_va4p1_0 hL4p1
  have hlt4p1:=zg xC
  unfold zZ
  cases h25:(zq yN.lo) with
  |true =>
   cases h26:(zq yN.hi) with
   |true =>
    cases h27:decide ((yu.length:Int)>0) with
    |true =>
     have g27:=of_decide_eq_true h27
     cases h28:decide (yN.lo≤(w64 (((yu.getD ((w64 ((yu.length:Int) - 1)).toNat) default).hi)+1))) with
     |true =>
      have g28:=of_decide_eq_true h28
      exact ih (yY+1) (yu.set ((w64 ((yu.length:Int) - 1)).toNat) (⟨(yu.getD ((w64 ((yu.length:Int) - 1)).toNat) default).lo,zN ((yu.getD ((w64 ((yu.length:Int) - 1)).toNat) default).hi) yN.hi⟩:Sn)) (zi xC) (zg xC) (by simp only [length_set] at *<;>omega) (by omega) (by simp only [length_set] at *<;>omega) (by omega)
     |false =>
      have g28:=of_decide_eq_false h28
      exact ih (yY+1) (yu++[yN]) (zi xC) (zg xC) (by simp only [length_append,length_cons,length_nil] at *<;>omega) (by omega) (by simp only [length_append,length_cons,length_nil] at *<;>omega) (by omega)
    |false =>
     have g27:=of_decide_eq_false h27
     exact ih (yY+1) (yu++[yN]) (zi xC) (zg xC) (by omega) (by omega) (by omega) (by omega)
   |false =>
    exact ⟨hz4p1_va4p1_0,hg4p1_va4p1_0⟩
  |false =>
   exact ⟨hz4p1_va4p1_0,hg4p1_va4p1_0⟩
def ranges_gathered_4p1_l_o1 (yY:Nat) (yN:Sn):List Ora:=[.dec true,.op (some 14) ⟨.lref 1 yY 2 0,[],[],2⟩,.op (some 15) ⟨.agg [I yN.lo,I yN.hi],[],[1],2⟩,.pure (B (zq yN.lo))]
theorem lp_ranges_gathered_4p1 (xH:List Sn) (yU:List Sn):∀(xq:List Sn) (yY:Nat) (xC:yU.drop yY=xq) (hi4p1:yY≤yU.length) (hq4p1:yU.length=xH.length) (hL4p1:yU.length≤1099511627776),(lim cfg).loop 69 lp69_4 ⟨65,[(4,.sl true [] 0 none),(10,.lsl 1 0 xH.length 2 none),(11,I (xH.length:Int)),(12,I (yY:Int))],[(1,⟨yU.map Sn.D,2,false⟩)],2,2⟩=some (zH xH yU (zY xq yY)):=by
 intro xq
 induction xq with
 |nil =>
  intro yY xC hi4p1 hq4p1 hL4p1
  unfold zY
  obtain rfl:yY=yU.length:=zW xC hi4p1
  exact zD [.dec false] (Ai (lt_no' xC hq4p1) trivial) (by kernel_rfl)
 |cons yN xq ih =>
  intro yY xC hi4p1 hq4p1 hL4p1
  have hlt4p1:=zg xC
  unfold zY
  dsimp only
  have p1:=(idx_row (C:=cfg) (nxt:=2) (t:=22) (ty:=ty22) (te:=zR) (e:=25) (o:=1) (len:=xH.length) (sz:=2) (cap:=none) (i:=(yY:Int)) (by kernel_rfl) rfl (by kernel_rfl) rfl (by omega) (by omega))
  have p2:=(load_row (C:=cfg) (objs:=[(1,⟨yU.map Sn.D,2,false⟩)]) (nxt:=2) (t:=25) (ty:=zR) (o:=1) (n:=yY) (sz:=2) (sub:=0) (ob:=⟨yU.map Sn.D,2,false⟩) (e:=Sn.D yN) (d:=.agg [I yN.lo,I yN.hi]) (by kernel_rfl) (by kernel_rfl) rfl (row_at (f:=Sn.D) xC) (by kernel_rfl))
  cases h29:(zq yN.lo) with
  |true =>
   cases h30:(zq yN.hi) with
   |true =>
    exact zz (ks:=[4,10,11,12]) (st':=(sd66 xH yY yU yN)) ((ranges_gathered_4p1_l_o1 yY yN)++[.dec true,.pure (B (zq yN.hi)),.dec true,.dec false,.rw 60 (I ((yY+1:Nat):Int))]) (Ai (zM (i:=yY) (by have:=zg xC;omega)) (Ai (Eq.refl false) (Ai h30 (Ai (zA yN.hi) (Ai h29 (Ai (zA yN.lo) (Ai p2 (Ai p1 (Ai (lt_at' xC hq4p1) trivial))))))))) (by kernel_rfl) (by (simp only [sd66,go_sem,length_set,Nat.reduceAdd,Nat.reduceEqDiff,Nat.reduceLT,Nat.reduceLeDiff,bI2,ze.idsL,ze.renL,ze.snapAll,z7.idsL,z7.renL,z7.snapAll])<;>rfl) (lp_ranges_gathered_4p1a xH yU _ (yY+1) [yN] (zi xC) (zg xC) (by simp only [length_append,length_cons,length_nil] at *<;>omega) (by omega) (by simp only [length_append,length_cons,length_nil] at *<;>omega) (by omega)) (by kernel_rfl)
   |false =>
    exact zD ((ranges_gathered_4p1_l_o1 yY yN)++[.dec true,.pure (B (zq yN.hi)),.dec false]) (Ai h30 (Ai (zA yN.hi) (Ai h29 (Ai (zA yN.lo) (Ai p2 (Ai p1 (Ai (lt_at' xC hq4p1) trivial))))))) (by kernel_rfl)
  |false =>
   exact zD ((ranges_gathered_4p1_l_o1 yY yN)++[.dec false]) (Ai h29 (Ai (zA yN.lo) (Ai p2 (Ai p1 (Ai (lt_at' xC hq4p1) trivial))))) (by kernel_rfl)
theorem ivt_ranges_gathered_4p1 (xH:List Sn) (yU:List Sn):∀(xq:List Sn) (yY:Nat) (xC:yU.drop yY=xq) (hi4p1:yY≤yU.length) (hq4p1:yU.length=xH.length) (hL4p1:yU.length≤1099511627776),zP xH yU (zY xq yY):=by
 intro xq
 induction xq with
 |nil =>
  intro yY xC hi4p1 hq4p1 hL4p1
  unfold zY
  obtain rfl:yY=yU.length:=zW xC hi4p1
  exact trivial
 |cons yN xq ih =>
  intro yY xC hi4p1 hq4p1 hL4p1
  have hlt4p1:=zg xC
  unfold zY
  dsimp only
  cases h29:(zq yN.lo) with
  |true =>
   cases h30:(zq yN.hi) with
   |true =>
    exact ivt_ranges_gathered_4p1a xH yU _ (yY+1) [yN] (zi xC) (zg xC) (by simp only [length_append,length_cons,length_nil] at *<;>omega) (by omega) (by simp only [length_append,length_cons,length_nil] at *<;>omega) (by omega)
   |false =>
    exact trivial
  |false =>
   exact trivial

end Go.VS

