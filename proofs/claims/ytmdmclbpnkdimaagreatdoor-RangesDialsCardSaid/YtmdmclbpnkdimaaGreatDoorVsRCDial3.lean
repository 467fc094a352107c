/- Nothing of a statement is proved in this text alone: it is part 3 of the proof's own tools, an evaluator of the code over deep values, its soundness, and what it makes of this seat's functions. Conditions: none beyond the statement's own. -/
import Derived.Test.YtmdmclbpnkdimaaGreatDoorVsRCDial2
import Derived.Lib.LaidTab
import Derived.Shelf.Strings.OnBuilder
import Derived.Shelf.Strconv.Itoa3
set_option linter.unusedSimpArgs false
set_option linter.unusedVariables false
namespace Go.VS
open Go Go.RowKit Go.Proofs Go.Sort Go.Shelf
section
variable {C:Cfg}
theorem mok_keep {M:Mem} {w w':World} (h:MOK M w) (hk:∀ b,b < w.heap.size→w'.heap[b]?=w.heap[b]?):MOK M w':=fun b i v hv=>by
 have h1:=h b i v hv
 have hb:=World.block_lt_of_cell? w _ h1
 unfold World.cell? at h1 ⊢
 rw [hk b hb]; exact h1
theorem inl_of_pure {K:FuncId} {args:List D} (h:PureOK C K args (.tup [])) (hn:∀ (M:Mem) (m:Loc) (vs:List Value),zB M m args vs→zB M noLoc args vs) (nxt:Nat):InlOK C K args [] nxt (.tup []) [] nxt:=fun E M m w vs hR hG hA hf ho=>by
 refine (h M w vs hR.mok hG hR.tab (hn M m _ hA)).mono ?_
 rintro e w' ⟨v,M',rfl,_,_,k3,k4,k5,k6,k7,k8,_⟩
 refine ⟨v,M,m,rfl,MLe.refl _,fun _ _=>rfl,fun x h1 h2=>hf x h2,?_,?_⟩
 ·simp only [Rep] at k3 ⊢
  obtain ⟨xs,rfl,hx⟩:=k3
  exact ⟨xs,rfl,hx⟩
 ·exact ⟨⟨k4.1.trans hR.os.1,fun q=>Nat.le_trans (hR.os.2 q) (k4.2 q)⟩,k5.trans hR.tape,k6.trans hR.output,Nat.le_trans hR.size k7,fun b hb=>(k8 b (Nat.lt_of_lt_of_le (hR.frlt b hb) hR.size)).trans (hR.keep b hb),hR.frlt,hR.mfr,mok_keep hR.mok k8,
   ⟨fun o ob h=>by simp [zp] at h,fun o ob h=>by simp [zp] at h,fun o o' ob ob' b s s' h=>by simp [zp] at h,fun o ob b s h=>by simp [zp] at h⟩⟩
theorem pure_string (hd:C.dr=false) {K:FuncId} {args:List D} {s:ByteArray} (h:∀ (M:Mem) (w:World) (vs:Array Value),MOK M w→TabOK C w→zB M noLoc args vs.toList →
  Calls C.P K vs w fun e w'=>e=.returned (.string s)∧Below w.heap.size w w'):PureOK C K args (.val (.string s)):=fun M w vs h1 _ h3 h4=>by
 refine (h M w vs h1 h3 h4).mono ?_
 rintro e w' ⟨rfl,k⟩
 exact ⟨_,M,rfl,MLe.refl _,mok_keep h1 k.block,by simp only [Rep],⟨k.os,fun q=>by rw [hd] at q; cases q⟩,k.tape,k.output,k.size,k.block,fun _ _ _=>rfl⟩
def unS:D→Option ByteArray
 | .val v=>match v with
  | .string s=>some s
  | _=>none
 | _=>none
def unSs:List D→Option (List ByteArray)
 | []=>some []
 | d::ds=>match unS d,unSs ds with
  | some x,some l=>some (x::l)
  | _,_=>none
theorem unS_eq {d:D} {s:ByteArray} (h:unS d=some s):d=.val (.string s):=by
 unfold unS at h
 split at h
 ·split at h
  ·cases h; rfl
  ·cases h
 ·cases h
theorem unSs_eq:∀ {ds:List D} {l:List ByteArray},unSs ds=some l→ds=l.map fun s=>.val (.string s)
 | [],l,h=>by simp [unSs] at h; subst h; rfl
 | d::ds,l,h=>by
  unfold unSs at h
  split at h
  ·rename_i e1 e2; cases h; rw [unS_eq e1,unSs_eq e2]; rfl
  ·cases h
def joinX (args:List D):Option D:=match args with
 | [.sl nl els sz _,d]=>match unS d,unSs els with
  | some sep,some xs=>if nl=false∧sz=1∧xs ≠ []∧xs.length≤140737488355328∧(Lib.join (xs.map (·.data.toList)) sep.data.toList).length≤140737488355328 then
    some (.val (.string ⟨(Lib.join (xs.map (·.data.toList)) sep.data.toList).toArray⟩)) else none
  | _,_=>none
 | _=>none
theorem repE_cells {M:Mem} {w:World} (hM:MOK M w):∀ (xs:List ByteArray) (b o:Nat),RepE M (xs.map fun s=>D.val (.string s)) 1 b o→∀ (j:Nat) x,xs[j]?=some x→w.cell? ⟨b,o+j,none⟩=some (.string x)
 | [],_,_,_,j,x,hx=>by simp at hx
 | s::xs,b,o,h,j,x,hx=>by
  simp only [List.map_cons,RepE,Rep] at h
  obtain ⟨⟨u,rfl,_,hm⟩,h2⟩:=h
  cases j with
  | zero =>
   simp at hx; subst hx
   have:=hm 0 (.string s) (by simp [Value.cells])
   exact hM _ _ _ this
  | succ j =>
   have:=repE_cells hM xs b (o+1) h2 j x (by simpa using hx)
   rw [show o+(j+1)=o+1+j from by omega]; exact this
theorem joinX_ok (hd:C.dr=false) {K:FuncId} (hJ:∀ (bk o c:Nat) (xs:List ByteArray) (sep:ByteArray) (w:World),(∀ (j:Nat) x,xs[j]?=some x→w.cell? ⟨bk,o+j,none⟩=some (.string x))→bk < w.heap.size→xs.length≤140737488355328→xs.length≤c→(Lib.join (xs.map (·.data.toList)) sep.data.toList).length≤140737488355328 →
  Calls C.P K #[.slice (some ⟨bk,o,none⟩) xs.length c,.string sep] w fun e w'=>e=.returned (.string ⟨(Lib.join (xs.map (·.data.toList)) sep.data.toList).toArray⟩)∧Below w.heap.size w w')
  {args:List D} {d:D} (h:joinX args=some d):PureOK C K args d:=by
 unfold joinX at h
 split at h
 ·rename_i nl els sz cap d0
  split at h
  ·rename_i sep xs e1 e2
   split at h
   ·rename_i hc
    obtain ⟨rfl,rfl,hne,hl,hlen⟩:=hc
    cases h
    rw [unS_eq e1,unSs_eq e2]
    refine pure_string hd fun M w vs h1 _ h3=>?_
    simp only [zB,Rep] at h3
    obtain ⟨v,r,e0,⟨_,hs⟩,v2,r2,rfl,rfl,rfl⟩:=h3
    obtain ⟨b,o,sp,c,rfl,hsp,hc1,_,_,hcell⟩:=hs trivial
    have hsp':sp=none:=hsp (by simpa using hne)
    subst hsp'
    have hvs:vs=#[.slice (some ⟨b,o,none⟩) xs.length c,.string sep]:=by
     cases vs
     simp only [] at e0
     subst e0
     simp
    rw [hvs]
    have hcells:=repE_cells h1 xs b o hcell
    refine hJ b o c xs sep w hcells ?_ hl (by simpa using hc1) hlen
    cases xs with
    | nil=>exact absurd rfl hne
    | cons x xs=>exact World.block_lt_of_cell? w _ (hcells 0 x rfl)
   ·cases h
  ·cases h
 ·cases h
def itoaX (args:List D):Option D:=match args with
 | [d]=>match unI d with
  | some n=>if -9223372036854775808≤n∧n≤9223372036854775807 then some (.val (.string ⟨(Lib.itoa n).toArray⟩)) else none
  | none=>none
 | _=>none
theorem itoaX_ok (hd:C.dr=false) {K g:FuncId} {name:String} {cs:Array Value} (hg:C.P.globalNamed name=some g) (ht:C.tab g=some cs)
  (hI:∀ (n:Int),-9223372036854775808≤n→n≤9223372036854775807→∀ w:World,w.var? C.P name=some cs→Calls C.P K #[.int .i64 n] w fun e w'=>e=.returned (.string ⟨(Lib.itoa n).toArray⟩)∧∃ k os,w'=grow (w.drewN k) os)
  {args:List D} {d:D} (h:itoaX args=some d):PureOK C K args d:=by
 unfold itoaX at h
 split at h
 ·split at h
  ·rename_i n e1
   split at h
   ·rename_i hc
    cases h
    rw [unI_eq e1]
    refine pure_string hd fun M w vs h1 h2 h3=>?_
    simp only [zB,Rep,I] at h3
    obtain ⟨v,r,e0,rfl,rfl⟩:=h3
    have hvs:vs=#[.int .i64 n]:=by
     cases vs
     simp only [] at e0
     subst e0
     simp
    rw [hvs]
    obtain ⟨t,fr,hh⟩:=h2 g cs ht
    refine (hI n hc.1 hc.2 w (by simp only [World.var?,hg,Option.bind_some,hh])).mono ?_
    rintro e w' ⟨rfl,k,os,rfl⟩
    refine ⟨rfl,⟨rfl,rfl,rfl,?_,fun b hb=>?_⟩⟩
    ·simp [grow,World.drewN]
    ·exact grow_heap (w.drewN k) os hb
   ·cases h
  ·cases h
 ·cases h
end
end Go.VS

namespace Go.VS.F1
open Go Go.Proofs Go.RowKit Go.Shelf Go.Sort
def powTab:Array Value:=#[.int .u64 1,.int .u64 10,.int .u64 100,.int .u64 1000,.int .u64 10000,.int .u64 100000,.int .u64 1000000,.int .u64 10000000,.int .u64 100000000,.int .u64 1000000000,.int .u64 10000000000,.int .u64 100000000000,.int .u64 1000000000000,.int .u64 10000000000000,.int .u64 100000000000000,.int .u64 1000000000000000,.int .u64 10000000000000000,.int .u64 100000000000000000,.int .u64 1000000000000000000,.int .u64 10000000000000000000]
theorem powTab_is:powTab=(Lib.pow10Tab.map fun z=>Value.int .u64 z).toArray:=by kernel_rfl
noncomputable def gPow : Nat := (Tryz.prog.globalNamed "internal/strconv.uint64pow10").getD 0
theorem gPow_is : Tryz.prog.globalNamed "internal/strconv.uint64pow10" = some gPow := by kernel_rfl
noncomputable def cfg:Cfg:={ P:=Tryz.prog,fn:=fnTab.find,ty:=tyTab.find,keep:=find2 keepTab,inl:=fun K=>memN K [36,38,43,44,60,61,62,63,64,69,70,72,82,87,96,103,108,110,111,112,117,121,122,132,133,134,135,136,137,138,139,144,145,146,147,158,160,161,162,172,190],ext:=fun K=>bif eqb K 98 then some itoaX else bif eqb K 99 then some joinX else none,xinl:=fun _=>none,glob:=fun _=>none,eqok:=fun t=>(eqTab.find t).isSome,dr:=false,tab:=fun g=>bif eqb g gPow then some powTab else none }
theorem cfg_ty:cfg.ty=tyTab.find:=rfl
theorem cfgOK:CfgOK cfg where
 ty:=fun _ _ h=>tyTab_ok.find h
 fn:=fun _ _ h=>fnTab_ok.find h
 enter:=fun _ _ h=>enTab_ok.find h
 mixed:=by kernel_rfl
 eqok:=fun t h=>by
  have h1:(eqTab.find t).isSome=true:=h
  cases hf:eqTab.find t with
  | none=>rw [hf] at h1; cases h1
  | some u =>
   have:=eqTab_ok.find hf
   unfold eqB at this
   simp only [Bool.and_eq_true,Bool.not_eq_true'] at this
   refine ⟨this.1.1,this.1.2,fun fs hfs f hm=>?_⟩
   have h2:=this.2
   have hfs':Tryz.prog.underlying t=some (.struct fs):=hfs
   rw [hfs'] at h2
   simp only [List.all_eq_true,bne_iff_ne] at h2
   exact h2 f hm
theorem globOK {M:Mem}:yb cfg M:=fun g d h=>by cases h
attribute [go_sem] zs_false
theorem cfg_tab:cfg.tab gPow=some powTab:=by
 show (bif eqb gPow gPow then some powTab else none)=_
 rw [yc.2 rfl]; rfl
theorem extOK:ExtOK cfg where
 pure:=fun K g args d h hg=>by
  have h':(bif eqb K 98 then some itoaX else bif eqb K 99 then some joinX else none:Option (List D→Option D))=some g:=h
  cases hk:eqb K 98 with
  | true =>
   rw [hk] at h'
   have:=yc.1 hk
   subst this
   cases h'
   exact itoaX_ok (C:=cfg) rfl gPow_is cfg_tab (fun n h0 h1 w hv=>Tryz.strconv_Itoa n h0 h1 w (by unfold Lib.TabIs; rw [← powTab_is]; exact hv)) hg
  | false =>
   rw [hk] at h'
   cases hj:eqb K 99 with
   | true =>
    rw [hj] at h'
    have:=yc.1 hj
    subst this
    cases h'
    exact joinX_ok (C:=cfg) rfl (fun bk o c xs sep w a1 a2 a3 a4 a5=>Tryz.strings_Join bk o c xs sep w a1 a2 a3 a4 a5) hg
   | false=>rw [hj] at h'; cases h'
 inl:=fun K g args objs nxt d objs' nxt' h=>by cases h
theorem sane_ok:(lim cfg).pure 16 []=some (B true):=lim_pure.2 ⟨60,by kernel_rfl⟩
theorem nil_ok:(lim cfg).pure 103 [.sl true [] 0 none,.fn (.func 104) [] []]=some (.tup []):=lim_pure.2 ⟨60,by kernel_rfl⟩
end Go.VS.F1

namespace Go.VS
open Go Go.Proofs Go.Sort Go.Shelf Go.RowKit
def zo (x y:Int × Int):Int:=F0.ranges_gathered_1 ⟨x.1,x.2⟩ ⟨y.1,y.2⟩
theorem cmp_val (a b:Int):F0.cmp_Compare a b=if a < b then -1 else if a > b then 1 else 0:=by
 unfold F0.cmp_Compare
 have e:∀ x:Int,F0.cmp_isNaN x=false:=fun x=>by simp [F0.cmp_isNaN]
 simp only [e,Bool.false_eq_true,if_false,Bool.cond_eq_ite,decide_eq_true_eq]
theorem gcmp_lo:loCmp zo:=fun x y=>by
 unfold zo F0.ranges_gathered_1
 rw [cmp_val]
 dsimp only
 repeat' split
 all_goals omega
noncomputable def cfg:Cfg:={ P:=Tryz.prog,fn:=fnTab.find,ty:=tyTab.find,keep:=find2 keepTab,inl:=fun K=>memN K [36,38,43,44,60,61,62,63,64,69,70,72,82,87,96,103,108,110,111,112,117,121,122,132,133,134,135,136,137,138,139,144,145,146,147,158,160,161,162,172,190],ext:=fun K=>bif eqb K 16 then some (fun args=>match args with | []=>some (B true) | _=>none) else none,xinl:=fun K=>bif eqb K 103 then some (sortN 104 zo) else none,glob:=fun _=>none,eqok:=fun t=>(eqTab.find t).isSome,dr:=false,tab:=F1.cfg.tab }
theorem cfg_ty:cfg.ty=tyTab.find:=rfl
theorem cfgOK:CfgOK cfg where
 ty:=fun _ _ h=>tyTab_ok.find h
 fn:=fun _ _ h=>fnTab_ok.find h
 enter:=fun _ _ h=>enTab_ok.find h
 mixed:=by kernel_rfl
 eqok:=fun t h=>by
  have h1:(eqTab.find t).isSome=true:=h
  cases hf:eqTab.find t with
  | none=>rw [hf] at h1; cases h1
  | some u =>
   have:=eqTab_ok.find hf
   unfold eqB at this
   simp only [Bool.and_eq_true,Bool.not_eq_true'] at this
   refine ⟨this.1.1,this.1.2,fun fs hfs f hm=>?_⟩
   have h2:=this.2
   have hfs':Tryz.prog.underlying t=some (.struct fs):=hfs
   rw [hfs'] at h2
   simp only [List.all_eq_true,bne_iff_ne] at h2
   exact h2 f hm
theorem globOK {M:Mem}:yb cfg M:=fun g d h=>by cases h
attribute [go_sem] zs_false
theorem pure_up {K:FuncId} {args:List D} {d:D} (h:PureOK F1.cfg K args d):PureOK cfg K args d:=fun M w vs h1 _ h3 h4=>h M w vs h1 F1.globOK h3 h4
theorem extOK:ExtOK cfg where
 pure:=fun K g args d h hg=>by
  have h':(bif eqb K 16 then some (fun args=>match args with | []=>some (B true) | _=>none) else none:Option (List D→Option D))=some g:=h
  cases hk:eqb K 16 with
  | false=>rw [hk] at h'; cases h'
  | true =>
   rw [hk] at h'
   have:=yc.1 hk
   subst this
   cases h'
   cases args with
   | nil=>cases hg; exact pure_up (lim_sound F1.cfgOK F1.extOK F1.sane_ok)
   | cons a r=>cases hg
 inl:=fun K g args objs nxt d objs' nxt' h hg=>by
  have h':(bif eqb K 103 then some (sortN 104 zo) else none:Option (List D→List (Nat × Ob)→Nat→Option (D × List (Nat × Ob) × Nat)))=some g:=h
  cases hk:eqb K 103 with
  | false=>rw [hk] at h'; cases h'
  | true =>
   rw [hk] at h'
   have:=yc.1 hk
   subst this
   cases h'
   exact sortN_ok (C:=cfg) Tryz.sortP cfgOK Tryz.isAgg25 Tryz.sizeOf25 gcmp_lo.swo (g:=104) (fg:=Tryz.f104) cfn104 (fun x y=>pureQ_of (C0:=F0.cfg) rfl (fun _=>F0.globOK) (fun _ _ _ q=>by cases q) (lim_sound F0.cfgOK F0.extOK (F0.T_ranges_gathered_1 ⟨x.1,x.2⟩ ⟨y.1,y.2⟩)))
    (fun nxt=>inl_of_pure (pure_up (lim_sound F1.cfgOK F1.extOK F1.nil_ok)) (fun M m vs h=>by simpa only [zB,Rep] using h) nxt) hg
theorem sane_ok:(lim cfg).pure 16 []=some (B true):=pure_of rfl
end Go.VS

namespace Go.VS
open Go Go.Proofs
set_option maxHeartbeats 0
set_option linter.unusedSimpArgs false
set_option linter.unusedVariables false
def ranges_in (n:Int) (lo:Int) (hi:Int):Bool :=
 bif decide (n ≥ lo) then
  bif decide (n≤hi) then
   true
  else
   false
 else
  false

theorem zr (n:Int) (lo:Int) (hi:Int):(lim cfg).pure 80 [I n,I lo,I hi]=some (B (ranges_in n lo hi)):=by
 unfold ranges_in
 cases h1:decide (n ≥ lo) with
 | true =>
  have g1:=of_decide_eq_true h1
  cases h2:decide (n≤hi) with
  | true =>
   have g2:=of_decide_eq_true h2
   exact zk [.dec true,.dec true] (Ai h2 (Ai h1 trivial)) (by kernel_rfl)
  | false =>
   have g2:=of_decide_eq_false h2
   exact zk [.dec true,.dec false] (Ai h2 (Ai h1 trivial)) (by kernel_rfl)
 | false =>
  have g1:=of_decide_eq_false h1
  exact zk [.dec false] (Ai h1 trivial) (by kernel_rfl)

def zh (n:Int):Bool :=
 bif (ranges_in n (-1099511627776) 1099511627776) then
  true
 else
  false

theorem zb (n:Int):(lim cfg).pure 81 [I n]=some (B (zh n)):=by
 unfold zh
 cases h1:(ranges_in n (-1099511627776) 1099511627776) with
 | true =>
  exact zk [.pure (B (ranges_in n (-1099511627776) 1099511627776)),.dec true] (Ai h1 (Ai (zr n (-1099511627776) 1099511627776) trivial)) (by kernel_rfl)
 | false =>
  exact zk [.pure (B (ranges_in n (-1099511627776) 1099511627776)),.dec false] (Ai h1 (Ai (zr n (-1099511627776) 1099511627776) trivial)) (by kernel_rfl)

noncomputable def lp47_4:Code:=subC [1,1,0,1,0,0] (bodyC Tryz.f47)

inductive LR_ranges_Check_4 where
 | x0
 | x1 (i4:Nat) (x4:Sn)
 | x2 (i4:Nat) (x4:Sn)
 | x3 (i4:Nat) (x4:Sn)
 | x4 (i4:Nat) (x4:Sn)
instance:Inhabited LR_ranges_Check_4:=⟨.x0⟩
def ranges_Check_4 (r:GS Sn):List Sn→Nat→LR_ranges_Check_4
 | [],i4=>.x0
 | x4::xx,i4 =>
  bif decide (x4.lo > x4.hi) then
   .x1 i4 x4
  else
   bif (zh x4.lo) then
    bif (zh x4.hi) then
     bif decide (((i4:Nat):Int) > 0) then
      bif decide ((w64 (((GS.at r (w64 (((i4:Nat):Int) - 1))).hi)+1)) ≥ x4.lo) then
       .x2 i4 x4
      else
       ranges_Check_4 r xx (i4+1)
     else
      ranges_Check_4 r xx (i4+1)
    else
     .x3 i4 x4
   else
    .x4 i4 x4
def lr_ranges_Check_4 (r:GS Sn):LR_ranges_Check_4→Exit × St
 | .x0=>((.exit 0),⟨49,[(11,B false),(0,.sl r.nl (r.l.map Sn.D) (zsl r.nl 2) none),(8,.sl r.nl (r.l.map Sn.D) (zsl r.nl 2) none),(9,I ((r.l.length:Nat):Int)),(10,I ((r.l.length:Nat):Int))],[],0,0⟩)
 | .x1 i4 x4=>(.ret,⟨49,[(2,I 20),(47,B true),(46,.tup []),(45,.tup []),(44,.tup []),(43,.tup []),(42,.tup []),(41,.tup []),(40,.tup []),(39,.tup []),(38,.tup []),(37,.tup []),(36,.tup []),(35,.tup []),(34,.tup []),(33,.tup []),(32,B true),(31,B true),(30,.tup []),(29,.tup []),(28,.tup []),(27,.tup []),(26,B true),(25,B true),(24,.tup []),(23,.tup []),(22,.tup []),(21,.tup []),(20,B true),(19,B true),(18,I x4.hi),(17,.lref 0 0 2 1),(16,I x4.lo),(15,.lref 0 0 2 0),(3,I ((i4:Nat):Int)),(4,.lref 0 0 2 0),(14,.agg [I x4.lo,I x4.hi]),(13,.ptr (.agg [I x4.lo,I x4.hi])),(12,I ((i4:Nat):Int)),(11,B true),(0,.sl r.nl (r.l.map Sn.D) (zsl r.nl 2) none),(8,.sl r.nl (r.l.map Sn.D) (zsl r.nl 2) none),(9,I ((r.l.length:Nat):Int)),(10,I ((i4:Nat):Int))],[(0,⟨[.agg [I x4.lo,I x4.hi]],2,false⟩)],1,0⟩)
 | .x2 i4 x4=>(.ret,⟨49,[(2,I 20),(47,B true),(46,B true),(45,B true),(44,I x4.lo),(43,.lref 0 0 2 0),(42,I (w64 (((GS.at r (w64 (((i4:Nat):Int) - 1))).hi)+1))),(41,I ((GS.at r (w64 (((i4:Nat):Int) - 1))).hi)),(40,.ptr (I ((GS.at r (w64 (((i4:Nat):Int) - 1))).hi))),(39,.ptr (.agg [I ((GS.at r (w64 (((i4:Nat):Int) - 1))).lo),I ((GS.at r (w64 (((i4:Nat):Int) - 1))).hi)])),(38,I (w64 (((i4:Nat):Int) - 1))),(37,I ((i4:Nat):Int)),(36,.sl r.nl (r.l.map Sn.D) (zsl r.nl 2) none),(35,B true),(34,B true),(33,I ((i4:Nat):Int)),(32,B false),(31,B false),(30,B false),(29,B true),(28,I x4.hi),(27,.lref 0 0 2 1),(26,B false),(25,B false),(24,B false),(23,B true),(22,I x4.lo),(21,.lref 0 0 2 0),(20,B false),(19,B false),(18,I x4.hi),(17,.lref 0 0 2 1),(16,I x4.lo),(15,.lref 0 0 2 0),(3,I ((i4:Nat):Int)),(4,.lref 0 0 2 0),(14,.agg [I x4.lo,I x4.hi]),(13,.ptr (.agg [I x4.lo,I x4.hi])),(12,I ((i4:Nat):Int)),(11,B true),(0,.sl r.nl (r.l.map Sn.D) (zsl r.nl 2) none),(8,.sl r.nl (r.l.map Sn.D) (zsl r.nl 2) none),(9,I ((r.l.length:Nat):Int)),(10,I ((i4:Nat):Int))],[(0,⟨[.agg [I x4.lo,I x4.hi]],2,false⟩)],1,0⟩)
 | .x3 i4 x4=>(.ret,⟨49,[(2,I 20),(47,B true),(46,.tup []),(45,.tup []),(44,.tup []),(43,.tup []),(42,.tup []),(41,.tup []),(40,.tup []),(39,.tup []),(38,.tup []),(37,.tup []),(36,.tup []),(35,.tup []),(34,.tup []),(33,.tup []),(32,B true),(31,B true),(30,B true),(29,B false),(28,I x4.hi),(27,.lref 0 0 2 1),(26,B false),(25,B false),(24,B false),(23,B true),(22,I x4.lo),(21,.lref 0 0 2 0),(20,B false),(19,B false),(18,I x4.hi),(17,.lref 0 0 2 1),(16,I x4.lo),(15,.lref 0 0 2 0),(3,I ((i4:Nat):Int)),(4,.lref 0 0 2 0),(14,.agg [I x4.lo,I x4.hi]),(13,.ptr (.agg [I x4.lo,I x4.hi])),(12,I ((i4:Nat):Int)),(11,B true),(0,.sl r.nl (r.l.map Sn.D) (zsl r.nl 2) none),(8,.sl r.nl (r.l.map Sn.D) (zsl r.nl 2) none),(9,I ((r.l.length:Nat):Int)),(10,I ((i4:Nat):Int))],[(0,⟨[.agg [I x4.lo,I x4.hi]],2,false⟩)],1,0⟩)
 | .x4 i4 x4=>(.ret,⟨49,[(2,I 20),(47,B true),(46,.tup []),(45,.tup []),(44,.tup []),(43,.tup []),(42,.tup []),(41,.tup []),(40,.tup []),(39,.tup []),(38,.tup []),(37,.tup []),(36,.tup []),(35,.tup []),(34,.tup []),(33,.tup []),(32,B true),(31,B true),(30,.tup []),(29,.tup []),(28,.tup []),(27,.tup []),(26,B true),(25,B true),(24,B true),(23,B false),(22,I x4.lo),(21,.lref 0 0 2 0),(20,B false),(19,B false),(18,I x4.hi),(17,.lref 0 0 2 1),(16,I x4.lo),(15,.lref 0 0 2 0),(3,I ((i4:Nat):Int)),(4,.lref 0 0 2 0),(14,.agg [I x4.lo,I x4.hi]),(13,.ptr (.agg [I x4.lo,I x4.hi])),(12,I ((i4:Nat):Int)),(11,B true),(0,.sl r.nl (r.l.map Sn.D) (zsl r.nl 2) none),(8,.sl r.nl (r.l.map Sn.D) (zsl r.nl 2) none),(9,I ((r.l.length:Nat):Int)),(10,I ((i4:Nat):Int))],[(0,⟨[.agg [I x4.lo,I x4.hi]],2,false⟩)],1,0⟩)
def ranges_Check_4_l_o1 (x4:Sn):List Ora:=[.dec true,.el (.agg [I x4.lo,I x4.hi]),.dec false,.pure (B (zh x4.lo)),.dec true,.pure (B (zh x4.hi))]
def ranges_Check_4_l_o2 (r:GS Sn) (i4:Nat):List Ora:=[.dec true,.dec true,.el (.agg [I ((GS.at r (w64 (((i4:Nat):Int) - 1))).lo),I ((GS.at r (w64 (((i4:Nat):Int) - 1))).hi)])]
theorem lp_ranges_Check_4 (r:GS Sn):∀ (xx:List Sn) (i4:Nat) (hd4:r.l.drop i4=xx) (hi4:i4≤r.l.length) (hL4:r.l.length≤9223372036854775807),(lim cfg).loop 47 lp47_4 ⟨49,[(0,.sl r.nl (r.l.map Sn.D) (zsl r.nl 2) none),(8,.sl r.nl (r.l.map Sn.D) (zsl r.nl 2) none),(9,I ((r.l.length:Nat):Int)),(10,I ((i4:Nat):Int))],[],0,0⟩=some (lr_ranges_Check_4 r (ranges_Check_4 r xx i4)):=by
 intro xx
 induction xx with
 | nil =>
  intro i4 hd4 hi4 hL4
  unfold ranges_Check_4
  obtain rfl:i4=r.l.length:=nil_eq hd4 hi4
  exact zF [.dec false] (Ai (lt_no hd4) trivial) (by kernel_rfl)
 | cons x4 xx ih =>
  intro i4 hd4 hi4 hL4
  have hlt4:=zc hd4
  unfold ranges_Check_4
  have p1:=(el_at (s:=r) (f:=Sn.D) (k:=2) hd4)
  cases h7:decide (x4.lo > x4.hi) with
  | true =>
   have g7:=of_decide_eq_true h7
   exact zF [.dec true,.el (.agg [I x4.lo,I x4.hi]),.dec true] (Ai h7 (Ai p1 (Ai (yk hd4) trivial))) (by kernel_rfl)
  | false =>
   have g7:=of_decide_eq_false h7
   cases h8:(zh x4.lo) with
   | true =>
    cases h9:(zh x4.hi) with
    | true =>
     cases h10:decide (((i4:Nat):Int) > 0) with
     | true =>
      have g10:=of_decide_eq_true h10
      have p2:=(el_in (s:=r) (f:=Sn.D) (k:=2) (i:=w64 (((i4:Nat):Int) - 1)) (by simp only [List.length_append,List.length_cons,List.length_nil,zi] at * <;> omega) (by simp only [List.length_append,List.length_cons,List.length_nil,zi] at * <;> omega))
      cases h11:decide ((w64 (((GS.at r (w64 (((i4:Nat):Int) - 1))).hi)+1)) ≥ x4.lo) with
      | true =>
       have g11:=of_decide_eq_true h11
       exact zF ((ranges_Check_4_l_o1 x4)++((ranges_Check_4_l_o2 r i4)++[.dec true])) (Ai h11 (Ai p2 (Ai h10 (Ai h9 (Ai (zb x4.hi) (Ai h8 (Ai (zb x4.lo) (Ai h7 (Ai p1 (Ai (yk hd4) trivial)))))))))) (by kernel_rfl)
      | false =>
       have g11:=of_decide_eq_false h11
       exact po_turn ((ranges_Check_4_l_o1 x4)++((ranges_Check_4_l_o2 r i4)++[.dec false,.rw 48 (I ((i4+1:Nat):Int))])) (Ai (zX (i:=i4) (by have:=zc hd4; omega)) (Ai h11 (Ai p2 (Ai h10 (Ai h9 (Ai (zb x4.hi) (Ai h8 (Ai (zb x4.lo) (Ai h7 (Ai p1 (Ai (yk hd4) trivial))))))))))) (ih (i4+1) (ze hd4) (zc hd4) (by omega)) (by kernel_rfl)
     | false =>
      have g10:=of_decide_eq_false h10
      exact po_turn ((ranges_Check_4_l_o1 x4)++[.dec true,.dec false,.rw 48 (I ((i4+1:Nat):Int))]) (Ai (zX (i:=i4) (by have:=zc hd4; omega)) (Ai h10 (Ai h9 (Ai (zb x4.hi) (Ai h8 (Ai (zb x4.lo) (Ai h7 (Ai p1 (Ai (yk hd4) trivial))))))))) (ih (i4+1) (ze hd4) (zc hd4) (by omega)) (by kernel_rfl)
    | false =>
     exact zF ((ranges_Check_4_l_o1 x4)++[.dec false]) (Ai h9 (Ai (zb x4.hi) (Ai h8 (Ai (zb x4.lo) (Ai h7 (Ai p1 (Ai (yk hd4) trivial))))))) (by kernel_rfl)
   | false =>
    exact zF [.dec true,.el (.agg [I x4.lo,I x4.hi]),.dec false,.pure (B (zh x4.lo)),.dec false] (Ai h8 (Ai (zb x4.lo) (Ai h7 (Ai p1 (Ai (yk hd4) trivial))))) (by kernel_rfl)

def zC (r:GS Sn):Int :=
 bif decide (((r.l.length:Nat):Int) > 64) then
  20
 else
  match ranges_Check_4 r r.l 0 with
  | .x0 =>
   0
  | .x1 i4 x4 =>
   20
  | .x2 i4 x4 =>
   20
  | .x3 i4 x4 =>
   20
  | .x4 i4 x4 =>
   20

def sd0 (r:GS Sn):St:=⟨49,[(11,B false),(0,.sl r.nl (r.l.map Sn.D) (zsl r.nl 2) none),(8,.sl r.nl (r.l.map Sn.D) (zsl r.nl 2) none),(9,I ((r.l.length:Nat):Int)),(10,I ((r.l.length:Nat):Int))],[],0,0⟩

def sd1 (r:GS Sn) (i4:Nat) (x4:Sn):St:=⟨49,[(2,I 20),(47,B true),(46,.tup []),(45,.tup []),(44,.tup []),(43,.tup []),(42,.tup []),(41,.tup []),(40,.tup []),(39,.tup []),(38,.tup []),(37,.tup []),(36,.tup []),(35,.tup []),(34,.tup []),(33,.tup []),(32,B true),(31,B true),(30,.tup []),(29,.tup []),(28,.tup []),(27,.tup []),(26,B true),(25,B true),(24,.tup []),(23,.tup []),(22,.tup []),(21,.tup []),(20,B true),(19,B true),(18,I x4.hi),(17,.lref 0 0 2 1),(16,I x4.lo),(15,.lref 0 0 2 0),(3,I ((i4:Nat):Int)),(4,.lref 0 0 2 0),(14,.agg [I x4.lo,I x4.hi]),(13,.ptr (.agg [I x4.lo,I x4.hi])),(12,I ((i4:Nat):Int)),(11,B true),(0,.sl r.nl (r.l.map Sn.D) (zsl r.nl 2) none),(8,.sl r.nl (r.l.map Sn.D) (zsl r.nl 2) none),(9,I ((r.l.length:Nat):Int)),(10,I ((i4:Nat):Int))],[(0,⟨[.agg [I x4.lo,I x4.hi]],2,false⟩)],1,0⟩

def sd2 (r:GS Sn) (i4:Nat) (x4:Sn):St:=⟨49,[(2,I 20),(47,B true),(46,B true),(45,B true),(44,I x4.lo),(43,.lref 0 0 2 0),(42,I (w64 (((GS.at r (w64 (((i4:Nat):Int) - 1))).hi)+1))),(41,I ((GS.at r (w64 (((i4:Nat):Int) - 1))).hi)),(40,.ptr (I ((GS.at r (w64 (((i4:Nat):Int) - 1))).hi))),(39,.ptr (.agg [I ((GS.at r (w64 (((i4:Nat):Int) - 1))).lo),I ((GS.at r (w64 (((i4:Nat):Int) - 1))).hi)])),(38,I (w64 (((i4:Nat):Int) - 1))),(37,I ((i4:Nat):Int)),(36,.sl r.nl (r.l.map Sn.D) (zsl r.nl 2) none),(35,B true),(34,B true),(33,I ((i4:Nat):Int)),(32,B false),(31,B false),(30,B false),(29,B true),(28,I x4.hi),(27,.lref 0 0 2 1),(26,B false),(25,B false),(24,B false),(23,B true),(22,I x4.lo),(21,.lref 0 0 2 0),(20,B false),(19,B false),(18,I x4.hi),(17,.lref 0 0 2 1),(16,I x4.lo),(15,.lref 0 0 2 0),(3,I ((i4:Nat):Int)),(4,.lref 0 0 2 0),(14,.agg [I x4.lo,I x4.hi]),(13,.ptr (.agg [I x4.lo,I x4.hi])),(12,I ((i4:Nat):Int)),(11,B true),(0,.sl r.nl (r.l.map Sn.D) (zsl r.nl 2) none),(8,.sl r.nl (r.l.map Sn.D) (zsl r.nl 2) none),(9,I ((r.l.length:Nat):Int)),(10,I ((i4:Nat):Int))],[(0,⟨[.agg [I x4.lo,I x4.hi]],2,false⟩)],1,0⟩

def sd3 (r:GS Sn) (i4:Nat) (x4:Sn):St:=⟨49,[(2,I 20),(47,B true),(46,.tup []),(45,.tup []),(44,.tup []),(43,.tup []),(42,.tup []),(41,.tup []),(40,.tup []),(39,.tup []),(38,.tup []),(37,.tup []),(36,.tup []),(35,.tup []),(34,.tup []),(33,.tup []),(32,B true),(31,B true),(30,B true),(29,B false),(28,I x4.hi),(27,.lref 0 0 2 1),(26,B false),(25,B false),(24,B false),(23,B true),(22,I x4.lo),(21,.lref 0 0 2 0),(20,B false),(19,B false),(18,I x4.hi),(17,.lref 0 0 2 1),(16,I x4.lo),(15,.lref 0 0 2 0),(3,I ((i4:Nat):Int)),(4,.lref 0 0 2 0),(14,.agg [I x4.lo,I x4.hi]),(13,.ptr (.agg [I x4.lo,I x4.hi])),(12,I ((i4:Nat):Int)),(11,B true),(0,.sl r.nl (r.l.map Sn.D) (zsl r.nl 2) none),(8,.sl r.nl (r.l.map Sn.D) (zsl r.nl 2) none),(9,I ((r.l.length:Nat):Int)),(10,I ((i4:Nat):Int))],[(0,⟨[.agg [I x4.lo,I x4.hi]],2,false⟩)],1,0⟩

def sd4 (r:GS Sn) (i4:Nat) (x4:Sn):St:=⟨49,[(2,I 20),(47,B true),(46,.tup []),(45,.tup []),(44,.tup []),(43,.tup []),(42,.tup []),(41,.tup []),(40,.tup []),(39,.tup []),(38,.tup []),(37,.tup []),(36,.tup []),(35,.tup []),(34,.tup []),(33,.tup []),(32,B true),(31,B true),(30,.tup []),(29,.tup []),(28,.tup []),(27,.tup []),(26,B true),(25,B true),(24,B true),(23,B false),(22,I x4.lo),(21,.lref 0 0 2 0),(20,B false),(19,B false),(18,I x4.hi),(17,.lref 0 0 2 1),(16,I x4.lo),(15,.lref 0 0 2 0),(3,I ((i4:Nat):Int)),(4,.lref 0 0 2 0),(14,.agg [I x4.lo,I x4.hi]),(13,.ptr (.agg [I x4.lo,I x4.hi])),(12,I ((i4:Nat):Int)),(11,B true),(0,.sl r.nl (r.l.map Sn.D) (zsl r.nl 2) none),(8,.sl r.nl (r.l.map Sn.D) (zsl r.nl 2) none),(9,I ((r.l.length:Nat):Int)),(10,I ((i4:Nat):Int))],[(0,⟨[.agg [I x4.lo,I x4.hi]],2,false⟩)],1,0⟩

theorem zm (r:GS Sn) (hL_r:r.l.length≤9223372036854775807):(lim cfg).pure 47 [GS.D Sn.D 2 r]=some (I (zC r)):=by
 unfold zC
 cases h1:decide (((r.l.length:Nat):Int) > 64) with
 | true =>
  have g1:=of_decide_eq_true h1
  exact zk [.rw 6 (I ((r.l.length:Nat):Int)),.dec true] (Ai h1 (Ai (zj Sn.D r) trivial)) (by kernel_rfl)
 | false =>
  have g1:=of_decide_eq_false h1
  cases h12:ranges_Check_4 r r.l 0 with
  | x0 =>
   try dsimp only
   exact zk [.rw 6 (I ((r.l.length:Nat):Int)),.dec false,.rw 9 (I ((r.l.length:Nat):Int)),.loop (.exit 0) (sd0 r)] (Ai (zZ (q:=lr_ranges_Check_4 r) (lp_ranges_Check_4 r r.l 0 (List.drop_zero) (Nat.zero_le _) (by omega)) h12) (Ai (zj Sn.D r) (Ai h1 (Ai (zj Sn.D r) trivial)))) (by kernel_rfl)
  | x1 i4 x4 =>
   try dsimp only
   exact zk [.rw 6 (I ((r.l.length:Nat):Int)),.dec false,.rw 9 (I ((r.l.length:Nat):Int)),.loop .ret (sd1 r i4 x4)] (Ai (zZ (q:=lr_ranges_Check_4 r) (lp_ranges_Check_4 r r.l 0 (List.drop_zero) (Nat.zero_le _) (by omega)) h12) (Ai (zj Sn.D r) (Ai h1 (Ai (zj Sn.D r) trivial)))) (by kernel_rfl)
  | x2 i4 x4 =>
   try dsimp only
   exact zk [.rw 6 (I ((r.l.length:Nat):Int)),.dec false,.rw 9 (I ((r.l.length:Nat):Int)),.loop .ret (sd2 r i4 x4)] (Ai (zZ (q:=lr_ranges_Check_4 r) (lp_ranges_Check_4 r r.l 0 (List.drop_zero) (Nat.zero_le _) (by omega)) h12) (Ai (zj Sn.D r) (Ai h1 (Ai (zj Sn.D r) trivial)))) (by kernel_rfl)
  | x3 i4 x4 =>
   try dsimp only
   exact zk [.rw 6 (I ((r.l.length:Nat):Int)),.dec false,.rw 9 (I ((r.l.length:Nat):Int)),.loop .ret (sd3 r i4 x4)] (Ai (zZ (q:=lr_ranges_Check_4 r) (lp_ranges_Check_4 r r.l 0 (List.drop_zero) (Nat.zero_le _) (by omega)) h12) (Ai (zj Sn.D r) (Ai h1 (Ai (zj Sn.D r) trivial)))) (by kernel_rfl)
  | x4 i4 x4 =>
   try dsimp only
   exact zk [.rw 6 (I ((r.l.length:Nat):Int)),.dec false,.rw 9 (I ((r.l.length:Nat):Int)),.loop .ret (sd4 r i4 x4)] (Ai (zZ (q:=lr_ranges_Check_4 r) (lp_ranges_Check_4 r r.l 0 (List.drop_zero) (Nat.zero_le _) (by omega)) h12) (Ai (zj Sn.D r) (Ai h1 (Ai (zj Sn.D r) trivial)))) (by kernel_rfl)

theorem two_bd {a b:GS Sn} {n:Nat} (ha:a.l.length≤n) (hb:b.l.length≤n):∀ r∈(GS.some [a,b]).l,r.l.length≤n:=by
 intro r hr
 simp only [GS.some_l,List.mem_cons,List.not_mem_nil,or_false] at hr
 rcases hr with rfl | rfl
 ·exact ha
 ·exact hb

noncomputable def lp32_4:Code:=subC [1,1,0,1,0,0] (bodyC Tryz.f32)

inductive LR_r_Valid_4 where
 | x0
 | x1 (i4:Nat) (x4:Sn)
 | x2 (i4:Nat) (x4:Sn)
 | x3 (i4:Nat) (x4:Sn)
 | x4 (i4:Nat) (x4:Sn)
instance:Inhabited LR_r_Valid_4:=⟨.x0⟩
def r_Valid_4 (r:GS Sn):List Sn→Nat→LR_r_Valid_4
 | [],i4=>.x0
 | x4::xx,i4 =>
  bif decide (x4.lo > x4.hi) then
   .x1 i4 x4
  else
   bif decide (x4.lo < (-1099511627776)) then
    .x2 i4 x4
   else
    bif decide (x4.hi > 1099511627776) then
     .x3 i4 x4
    else
     bif decide (((i4:Nat):Int) > 0) then
      bif decide ((w64 (((GS.at r (w64 (((i4:Nat):Int) - 1))).hi)+1)) ≥ x4.lo) then
       .x4 i4 x4
      else
       r_Valid_4 r xx (i4+1)
     else
      r_Valid_4 r xx (i4+1)
def lr_r_Valid_4 (r:GS Sn):LR_r_Valid_4→Exit × St
 | .x0=>((.exit 0),⟨57,[(10,B false),(9,I ((r.l.length:Nat):Int)),(8,.sl r.nl (r.l.map Sn.D) (zsl r.nl 2) none),(7,I ((r.l.length:Nat):Int)),(0,.sl r.nl (r.l.map Sn.D) (zsl r.nl 2) none),(3,I ((r.l.length:Nat):Int))],[],0,0⟩)
 | .x1 i4 x4=>(.ret,⟨57,[(2,B false),(39,B true),(38,.tup []),(37,.tup []),(36,.tup []),(35,.tup []),(34,.tup []),(33,.tup []),(32,B true),(31,B true),(30,.tup []),(29,.tup []),(28,.tup []),(27,.tup []),(26,.tup []),(25,.tup []),(24,B true),(23,B true),(22,I x4.hi),(21,.ptr (I x4.hi)),(20,.ptr (.agg [I x4.lo,I x4.hi])),(19,I ((i4:Nat):Int)),(18,.sl r.nl (r.l.map Sn.D) (zsl r.nl 2) none),(17,I x4.lo),(16,.ptr (I x4.lo)),(15,.ptr (.agg [I x4.lo,I x4.hi])),(14,I ((i4:Nat):Int)),(13,.sl r.nl (r.l.map Sn.D) (zsl r.nl 2) none),(10,B true),(9,I ((r.l.length:Nat):Int)),(8,.sl r.nl (r.l.map Sn.D) (zsl r.nl 2) none),(7,I ((i4:Nat):Int)),(0,.sl r.nl (r.l.map Sn.D) (zsl r.nl 2) none),(3,I ((i4:Nat):Int))],[],0,0⟩)
 | .x2 i4 x4=>(.ret,⟨57,[(2,B false),(39,B true),(38,.tup []),(37,.tup []),(36,.tup []),(35,.tup []),(34,.tup []),(33,.tup []),(32,B true),(31,B true),(30,B true),(29,I x4.lo),(28,.ptr (I x4.lo)),(27,.ptr (.agg [I x4.lo,I x4.hi])),(26,I ((i4:Nat):Int)),(25,.sl r.nl (r.l.map Sn.D) (zsl r.nl 2) none),(24,B false),(23,B false),(22,I x4.hi),(21,.ptr (I x4.hi)),(20,.ptr (.agg [I x4.lo,I x4.hi])),(19,I ((i4:Nat):Int)),(18,.sl r.nl (r.l.map Sn.D) (zsl r.nl 2) none),(17,I x4.lo),(16,.ptr (I x4.lo)),(15,.ptr (.agg [I x4.lo,I x4.hi])),(14,I ((i4:Nat):Int)),(13,.sl r.nl (r.l.map Sn.D) (zsl r.nl 2) none),(10,B true),(9,I ((r.l.length:Nat):Int)),(8,.sl r.nl (r.l.map Sn.D) (zsl r.nl 2) none),(7,I ((i4:Nat):Int)),(0,.sl r.nl (r.l.map Sn.D) (zsl r.nl 2) none),(3,I ((i4:Nat):Int))],[],0,0⟩)
 | .x3 i4 x4=>(.ret,⟨57,[(2,B false),(39,B true),(38,B true),(37,I x4.hi),(36,.ptr (I x4.hi)),(35,.ptr (.agg [I x4.lo,I x4.hi])),(34,I ((i4:Nat):Int)),(33,.sl r.nl (r.l.map Sn.D) (zsl r.nl 2) none),(32,B false),(31,B false),(30,B false),(29,I x4.lo),(28,.ptr (I x4.lo)),(27,.ptr (.agg [I x4.lo,I x4.hi])),(26,I ((i4:Nat):Int)),(25,.sl r.nl (r.l.map Sn.D) (zsl r.nl 2) none),(24,B false),(23,B false),(22,I x4.hi),(21,.ptr (I x4.hi)),(20,.ptr (.agg [I x4.lo,I x4.hi])),(19,I ((i4:Nat):Int)),(18,.sl r.nl (r.l.map Sn.D) (zsl r.nl 2) none),(17,I x4.lo),(16,.ptr (I x4.lo)),(15,.ptr (.agg [I x4.lo,I x4.hi])),(14,I ((i4:Nat):Int)),(13,.sl r.nl (r.l.map Sn.D) (zsl r.nl 2) none),(10,B true),(9,I ((r.l.length:Nat):Int)),(8,.sl r.nl (r.l.map Sn.D) (zsl r.nl 2) none),(7,I ((i4:Nat):Int)),(0,.sl r.nl (r.l.map Sn.D) (zsl r.nl 2) none),(3,I ((i4:Nat):Int))],[],0,0⟩)
 | .x4 i4 x4=>(.ret,⟨57,[(2,B false),(56,B true),(55,B true),(54,I x4.lo),(53,.ptr (I x4.lo)),(52,.ptr (.agg [I x4.lo,I x4.hi])),(51,I ((i4:Nat):Int)),(50,.sl r.nl (r.l.map Sn.D) (zsl r.nl 2) none),(49,I (w64 (((GS.at r (w64 (((i4:Nat):Int) - 1))).hi)+1))),(48,I ((GS.at r (w64 (((i4:Nat):Int) - 1))).hi)),(47,.ptr (I ((GS.at r (w64 (((i4:Nat):Int) - 1))).hi))),(46,.ptr (.agg [I ((GS.at r (w64 (((i4:Nat):Int) - 1))).lo),I ((GS.at r (w64 (((i4:Nat):Int) - 1))).hi)])),(45,I (w64 (((i4:Nat):Int) - 1))),(44,I ((i4:Nat):Int)),(43,.sl r.nl (r.l.map Sn.D) (zsl r.nl 2) none),(42,B true),(41,B true),(40,I ((i4:Nat):Int)),(39,B false),(38,B false),(37,I x4.hi),(36,.ptr (I x4.hi)),(35,.ptr (.agg [I x4.lo,I x4.hi])),(34,I ((i4:Nat):Int)),(33,.sl r.nl (r.l.map Sn.D) (zsl r.nl 2) none),(32,B false),(31,B false),(30,B false),(29,I x4.lo),(28,.ptr (I x4.lo)),(27,.ptr (.agg [I x4.lo,I x4.hi])),(26,I ((i4:Nat):Int)),(25,.sl r.nl (r.l.map Sn.D) (zsl r.nl 2) none),(24,B false),(23,B false),(22,I x4.hi),(21,.ptr (I x4.hi)),(20,.ptr (.agg [I x4.lo,I x4.hi])),(19,I ((i4:Nat):Int)),(18,.sl r.nl (r.l.map Sn.D) (zsl r.nl 2) none),(17,I x4.lo),(16,.ptr (I x4.lo)),(15,.ptr (.agg [I x4.lo,I x4.hi])),(14,I ((i4:Nat):Int)),(13,.sl r.nl (r.l.map Sn.D) (zsl r.nl 2) none),(10,B true),(9,I ((r.l.length:Nat):Int)),(8,.sl r.nl (r.l.map Sn.D) (zsl r.nl 2) none),(7,I ((i4:Nat):Int)),(0,.sl r.nl (r.l.map Sn.D) (zsl r.nl 2) none),(3,I ((i4:Nat):Int))],[],0,0⟩)
def r_Valid_4_l_o1 (r:GS Sn) (x4:Sn):List Ora:=[.rw 9 (I ((r.l.length:Nat):Int)),.dec true,.el (.agg [I x4.lo,I x4.hi]),.el (.agg [I x4.lo,I x4.hi]),.dec false,.el (.agg [I x4.lo,I x4.hi])]
def r_Valid_4_l_o2 (r:GS Sn) (i4:Nat) (x4:Sn):List Ora:=[.dec false,.el (.agg [I x4.lo,I x4.hi]),.dec false,.dec true,.el (.agg [I ((GS.at r (w64 (((i4:Nat):Int) - 1))).lo),I ((GS.at r (w64 (((i4:Nat):Int) - 1))).hi)]),.el (.agg [I x4.lo,I x4.hi])]
theorem lp_r_Valid_4 (r:GS Sn):∀ (xx:List Sn) (i4:Nat) (hd4:r.l.drop i4=xx) (hi4:i4≤r.l.length) (hL4:r.l.length≤9223372036854775807),(lim cfg).loop 32 lp32_4 ⟨57,[(0,.sl r.nl (r.l.map Sn.D) (zsl r.nl 2) none),(3,I ((i4:Nat):Int))],[],0,0⟩=some (lr_r_Valid_4 r (r_Valid_4 r xx i4)):=by
 intro xx
 induction xx with
 | nil =>
  intro i4 hd4 hi4 hL4
  unfold r_Valid_4
  obtain rfl:i4=r.l.length:=nil_eq hd4 hi4
  exact zF [.rw 9 (I ((r.l.length:Nat):Int)),.dec false] (Ai (lt_no hd4) (Ai (zj Sn.D r) trivial)) (by kernel_rfl)
 | cons x4 xx ih =>
  intro i4 hd4 hi4 hL4
  have hlt4:=zc hd4
  unfold r_Valid_4
  have p1:=(el_at (s:=r) (f:=Sn.D) (k:=2) hd4)
  have p2:=(el_at (s:=r) (f:=Sn.D) (k:=2) hd4)
  cases h7:decide (x4.lo > x4.hi) with
  | true =>
   have g7:=of_decide_eq_true h7
   exact zF [.rw 9 (I ((r.l.length:Nat):Int)),.dec true,.el (.agg [I x4.lo,I x4.hi]),.el (.agg [I x4.lo,I x4.hi]),.dec true] (Ai h7 (Ai p2 (Ai p1 (Ai (yk hd4) (Ai (zj Sn.D r) trivial))))) (by kernel_rfl)
  | false =>
   have g7:=of_decide_eq_false h7
   have p3:=(el_at (s:=r) (f:=Sn.D) (k:=2) hd4)
   cases h8:decide (x4.lo < (-1099511627776)) with
   | true =>
    have g8:=of_decide_eq_true h8
    exact zF ((r_Valid_4_l_o1 r x4)++[.dec true]) (Ai h8 (Ai p3 (Ai h7 (Ai p2 (Ai p1 (Ai (yk hd4) (Ai (zj Sn.D r) trivial))))))) (by kernel_rfl)
   | false =>
    have g8:=of_decide_eq_false h8
    have p4:=(el_at (s:=r) (f:=Sn.D) (k:=2) hd4)
    cases h9:decide (x4.hi > 1099511627776) with
    | true =>
     have g9:=of_decide_eq_true h9
     exact zF ((r_Valid_4_l_o1 r x4)++[.dec false,.el (.agg [I x4.lo,I x4.hi]),.dec true]) (Ai h9 (Ai p4 (Ai h8 (Ai p3 (Ai h7 (Ai p2 (Ai p1 (Ai (yk hd4) (Ai (zj Sn.D r) trivial))))))))) (by kernel_rfl)
    | false =>
     have g9:=of_decide_eq_false h9
     cases h10:decide (((i4:Nat):Int) > 0) with
     | true =>
      have g10:=of_decide_eq_true h10
      have p5:=(el_in (s:=r) (f:=Sn.D) (k:=2) (i:=w64 (((i4:Nat):Int) - 1)) (by simp only [List.length_append,List.length_cons,List.length_nil,zi] at * <;> omega) (by simp only [List.length_append,List.length_cons,List.length_nil,zi] at * <;> omega))
      have p6:=(el_at (s:=r) (f:=Sn.D) (k:=2) hd4)
      cases h11:decide ((w64 (((GS.at r (w64 (((i4:Nat):Int) - 1))).hi)+1)) ≥ x4.lo) with
      | true =>
       have g11:=of_decide_eq_true h11
       exact zF ((r_Valid_4_l_o1 r x4)++((r_Valid_4_l_o2 r i4 x4)++[.dec true])) (Ai h11 (Ai p6 (Ai p5 (Ai h10 (Ai h9 (Ai p4 (Ai h8 (Ai p3 (Ai h7 (Ai p2 (Ai p1 (Ai (yk hd4) (Ai (zj Sn.D r) trivial))))))))))))) (by kernel_rfl)
      | false =>
       have g11:=of_decide_eq_false h11
       exact po_turn ((r_Valid_4_l_o1 r x4)++((r_Valid_4_l_o2 r i4 x4)++[.dec false,.rw 12 (I ((i4+1:Nat):Int))])) (Ai (zX (i:=i4) (by have:=zc hd4; omega)) (Ai h11 (Ai p6 (Ai p5 (Ai h10 (Ai h9 (Ai p4 (Ai h8 (Ai p3 (Ai h7 (Ai p2 (Ai p1 (Ai (yk hd4) (Ai (zj Sn.D r) trivial)))))))))))))) (ih (i4+1) (ze hd4) (zc hd4) (by omega)) (by kernel_rfl)
     | false =>
      have g10:=of_decide_eq_false h10
      exact po_turn ((r_Valid_4_l_o1 r x4)++[.dec false,.el (.agg [I x4.lo,I x4.hi]),.dec false,.dec false,.rw 12 (I ((i4+1:Nat):Int))]) (Ai (zX (i:=i4) (by have:=zc hd4; omega)) (Ai h10 (Ai h9 (Ai p4 (Ai h8 (Ai p3 (Ai h7 (Ai p2 (Ai p1 (Ai (yk hd4) (Ai (zj Sn.D r) trivial))))))))))) (ih (i4+1) (ze hd4) (zc hd4) (by omega)) (by kernel_rfl)

def r_Valid (r:GS Sn):Bool :=
 bif decide (((r.l.length:Nat):Int) > 64) then
  false
 else
  match r_Valid_4 r r.l 0 with
  | .x0 =>
   true
  | .x1 i4 x4 =>
   false
  | .x2 i4 x4 =>
   false
  | .x3 i4 x4 =>
   false
  | .x4 i4 x4 =>
   false

def sd7 (r:GS Sn):St:=⟨57,[(10,B false),(9,I ((r.l.length:Nat):Int)),(8,.sl r.nl (r.l.map Sn.D) (zsl r.nl 2) none),(7,I ((r.l.length:Nat):Int)),(0,.sl r.nl (r.l.map Sn.D) (zsl r.nl 2) none),(3,I ((r.l.length:Nat):Int))],[],0,0⟩

def sd8 (r:GS Sn) (i4:Nat) (x4:Sn):St:=⟨57,[(2,B false),(39,B true),(38,.tup []),(37,.tup []),(36,.tup []),(35,.tup []),(34,.tup []),(33,.tup []),(32,B true),(31,B true),(30,.tup []),(29,.tup []),(28,.tup []),(27,.tup []),(26,.tup []),(25,.tup []),(24,B true),(23,B true),(22,I x4.hi),(21,.ptr (I x4.hi)),(20,.ptr (.agg [I x4.lo,I x4.hi])),(19,I ((i4:Nat):Int)),(18,.sl r.nl (r.l.map Sn.D) (zsl r.nl 2) none),(17,I x4.lo),(16,.ptr (I x4.lo)),(15,.ptr (.agg [I x4.lo,I x4.hi])),(14,I ((i4:Nat):Int)),(13,.sl r.nl (r.l.map Sn.D) (zsl r.nl 2) none),(10,B true),(9,I ((r.l.length:Nat):Int)),(8,.sl r.nl (r.l.map Sn.D) (zsl r.nl 2) none),(7,I ((i4:Nat):Int)),(0,.sl r.nl (r.l.map Sn.D) (zsl r.nl 2) none),(3,I ((i4:Nat):Int))],[],0,0⟩

def sd9 (r:GS Sn) (i4:Nat) (x4:Sn):St:=⟨57,[(2,B false),(39,B true),(38,.tup []),(37,.tup []),(36,.tup []),(35,.tup []),(34,.tup []),(33,.tup []),(32,B true),(31,B true),(30,B true),(29,I x4.lo),(28,.ptr (I x4.lo)),(27,.ptr (.agg [I x4.lo,I x4.hi])),(26,I ((i4:Nat):Int)),(25,.sl r.nl (r.l.map Sn.D) (zsl r.nl 2) none),(24,B false),(23,B false),(22,I x4.hi),(21,.ptr (I x4.hi)),(20,.ptr (.agg [I x4.lo,I x4.hi])),(19,I ((i4:Nat):Int)),(18,.sl r.nl (r.l.map Sn.D) (zsl r.nl 2) none),(17,I x4.lo),(16,.ptr (I x4.lo)),(15,.ptr (.agg [I x4.lo,I x4.hi])),(14,I ((i4:Nat):Int)),(13,.sl r.nl (r.l.map Sn.D) (zsl r.nl 2) none),(10,B true),(9,I ((r.l.length:Nat):Int)),(8,.sl r.nl (r.l.map Sn.D) (zsl r.nl 2) none),(7,I ((i4:Nat):Int)),(0,.sl r.nl (r.l.map Sn.D) (zsl r.nl 2) none),(3,I ((i4:Nat):Int))],[],0,0⟩

def sd10 (r:GS Sn) (i4:Nat) (x4:Sn):St:=⟨57,[(2,B false),(39,B true),(38,B true),(37,I x4.hi),(36,.ptr (I x4.hi)),(35,.ptr (.agg [I x4.lo,I x4.hi])),(34,I ((i4:Nat):Int)),(33,.sl r.nl (r.l.map Sn.D) (zsl r.nl 2) none),(32,B false),(31,B false),(30,B false),(29,I x4.lo),(28,.ptr (I x4.lo)),(27,.ptr (.agg [I x4.lo,I x4.hi])),(26,I ((i4:Nat):Int)),(25,.sl r.nl (r.l.map Sn.D) (zsl r.nl 2) none),(24,B false),(23,B false),(22,I x4.hi),(21,.ptr (I x4.hi)),(20,.ptr (.agg [I x4.lo,I x4.hi])),(19,I ((i4:Nat):Int)),(18,.sl r.nl (r.l.map Sn.D) (zsl r.nl 2) none),(17,I x4.lo),(16,.ptr (I x4.lo)),(15,.ptr (.agg [I x4.lo,I x4.hi])),(14,I ((i4:Nat):Int)),(13,.sl r.nl (r.l.map Sn.D) (zsl r.nl 2) none),(10,B true),(9,I ((r.l.length:Nat):Int)),(8,.sl r.nl (r.l.map Sn.D) (zsl r.nl 2) none),(7,I ((i4:Nat):Int)),(0,.sl r.nl (r.l.map Sn.D) (zsl r.nl 2) none),(3,I ((i4:Nat):Int))],[],0,0⟩

def sd11 (r:GS Sn) (i4:Nat) (x4:Sn):St:=⟨57,[(2,B false),(56,B true),(55,B true),(54,I x4.lo),(53,.ptr (I x4.lo)),(52,.ptr (.agg [I x4.lo,I x4.hi])),(51,I ((i4:Nat):Int)),(50,.sl r.nl (r.l.map Sn.D) (zsl r.nl 2) none),(49,I (w64 (((GS.at r (w64 (((i4:Nat):Int) - 1))).hi)+1))),(48,I ((GS.at r (w64 (((i4:Nat):Int) - 1))).hi)),(47,.ptr (I ((GS.at r (w64 (((i4:Nat):Int) - 1))).hi))),(46,.ptr (.agg [I ((GS.at r (w64 (((i4:Nat):Int) - 1))).lo),I ((GS.at r (w64 (((i4:Nat):Int) - 1))).hi)])),(45,I (w64 (((i4:Nat):Int) - 1))),(44,I ((i4:Nat):Int)),(43,.sl r.nl (r.l.map Sn.D) (zsl r.nl 2) none),(42,B true),(41,B true),(40,I ((i4:Nat):Int)),(39,B false),(38,B false),(37,I x4.hi),(36,.ptr (I x4.hi)),(35,.ptr (.agg [I x4.lo,I x4.hi])),(34,I ((i4:Nat):Int)),(33,.sl r.nl (r.l.map Sn.D) (zsl r.nl 2) none),(32,B false),(31,B false),(30,B false),(29,I x4.lo),(28,.ptr (I x4.lo)),(27,.ptr (.agg [I x4.lo,I x4.hi])),(26,I ((i4:Nat):Int)),(25,.sl r.nl (r.l.map Sn.D) (zsl r.nl 2) none),(24,B false),(23,B false),(22,I x4.hi),(21,.ptr (I x4.hi)),(20,.ptr (.agg [I x4.lo,I x4.hi])),(19,I ((i4:Nat):Int)),(18,.sl r.nl (r.l.map Sn.D) (zsl r.nl 2) none),(17,I x4.lo),(16,.ptr (I x4.lo)),(15,.ptr (.agg [I x4.lo,I x4.hi])),(14,I ((i4:Nat):Int)),(13,.sl r.nl (r.l.map Sn.D) (zsl r.nl 2) none),(10,B true),(9,I ((r.l.length:Nat):Int)),(8,.sl r.nl (r.l.map Sn.D) (zsl r.nl 2) none),(7,I ((i4:Nat):Int)),(0,.sl r.nl (r.l.map Sn.D) (zsl r.nl 2) none),(3,I ((i4:Nat):Int))],[],0,0⟩

theorem yj (r:GS Sn) (hL_r:r.l.length≤9223372036854775807):(lim cfg).pure 32 [GS.D Sn.D 2 r]=some (B (r_Valid r)):=by
 unfold r_Valid
 cases h1:decide (((r.l.length:Nat):Int) > 64) with
 | true =>
  have g1:=of_decide_eq_true h1
  exact zk [.rw 5 (I ((r.l.length:Nat):Int)),.dec true] (Ai h1 (Ai (zj Sn.D r) trivial)) (by kernel_rfl)
 | false =>
  have g1:=of_decide_eq_false h1
  cases h12:r_Valid_4 r r.l 0 with
  | x0 =>
   try dsimp only
   exact zk [.rw 5 (I ((r.l.length:Nat):Int)),.dec false,.loop (.exit 0) (sd7 r)] (Ai (zZ (q:=lr_r_Valid_4 r) (lp_r_Valid_4 r r.l 0 (List.drop_zero) (Nat.zero_le _) (by omega)) h12) (Ai h1 (Ai (zj Sn.D r) trivial))) (by kernel_rfl)
  | x1 i4 x4 =>
   try dsimp only
   exact zk [.rw 5 (I ((r.l.length:Nat):Int)),.dec false,.loop .ret (sd8 r i4 x4)] (Ai (zZ (q:=lr_r_Valid_4 r) (lp_r_Valid_4 r r.l 0 (List.drop_zero) (Nat.zero_le _) (by omega)) h12) (Ai h1 (Ai (zj Sn.D r) trivial))) (by kernel_rfl)
  | x2 i4 x4 =>
   try dsimp only
   exact zk [.rw 5 (I ((r.l.length:Nat):Int)),.dec false,.loop .ret (sd9 r i4 x4)] (Ai (zZ (q:=lr_r_Valid_4 r) (lp_r_Valid_4 r r.l 0 (List.drop_zero) (Nat.zero_le _) (by omega)) h12) (Ai h1 (Ai (zj Sn.D r) trivial))) (by kernel_rfl)
  | x3 i4 x4 =>
   try dsimp only
   exact zk [.rw 5 (I ((r.l.length:Nat):Int)),.dec false,.loop .ret (sd10 r i4 x4)] (Ai (zZ (q:=lr_r_Valid_4 r) (lp_r_Valid_4 r r.l 0 (List.drop_zero) (Nat.zero_le _) (by omega)) h12) (Ai h1 (Ai (zj Sn.D r) trivial))) (by kernel_rfl)
  | x4 i4 x4 =>
   try dsimp only
   exact zk [.rw 5 (I ((r.l.length:Nat):Int)),.dec false,.loop .ret (sd11 r i4 x4)] (Ai (zZ (q:=lr_r_Valid_4 r) (lp_r_Valid_4 r r.l 0 (List.drop_zero) (Nat.zero_le _) (by omega)) h12) (Ai h1 (Ai (zj Sn.D r) trivial))) (by kernel_rfl)

noncomputable def lp34_4:Code:=subC [1,1,0,1,0,0] (bodyC Tryz.f34)

inductive LR_r_Same_4 where
 | x0
 | x1 (i4:Nat) (x4:Sn)
instance:Inhabited LR_r_Same_4:=⟨.x0⟩
def r_Same_4 (b:GS Sn):List Sn→Nat→LR_r_Same_4
 | [],i4=>.x0
 | x4::xx,i4 =>
  bif (!((x4.lo == ((GS.at b ((i4:Nat):Int)).lo)) && ((x4.hi == ((GS.at b ((i4:Nat):Int)).hi)) && true))) then
   .x1 i4 x4
  else
   r_Same_4 b xx (i4+1)
def lr_r_Same_4 (a:GS Sn) (b:GS Sn):LR_r_Same_4→Exit × St
 | .x0=>((.exit 0),⟨26,[(14,B false),(13,I ((a.l.length:Nat):Int)),(12,.sl a.nl (a.l.map Sn.D) (zsl a.nl 2) none),(11,I ((a.l.length:Nat):Int)),(0,.sl a.nl (a.l.map Sn.D) (zsl a.nl 2) none),(1,.sl b.nl (b.l.map Sn.D) (zsl b.nl 2) none),(5,I ((a.l.length:Nat):Int))],[],0,0⟩)
 | .x1 i4 x4=>(.ret,⟨26,[(4,B false),(25,B true),(24,.agg [I ((GS.at b ((i4:Nat):Int)).lo),I ((GS.at b ((i4:Nat):Int)).hi)]),(23,.ptr (.agg [I ((GS.at b ((i4:Nat):Int)).lo),I ((GS.at b ((i4:Nat):Int)).hi)])),(22,I ((i4:Nat):Int)),(21,.sl b.nl (b.l.map Sn.D) (zsl b.nl 2) none),(20,.agg [I x4.lo,I x4.hi]),(19,.ptr (.agg [I x4.lo,I x4.hi])),(18,I ((i4:Nat):Int)),(17,.sl a.nl (a.l.map Sn.D) (zsl a.nl 2) none),(14,B true),(13,I ((a.l.length:Nat):Int)),(12,.sl a.nl (a.l.map Sn.D) (zsl a.nl 2) none),(11,I ((i4:Nat):Int)),(0,.sl a.nl (a.l.map Sn.D) (zsl a.nl 2) none),(1,.sl b.nl (b.l.map Sn.D) (zsl b.nl 2) none),(5,I ((i4:Nat):Int))],[],0,0⟩)
theorem lp_r_Same_4 (a:GS Sn) (b:GS Sn):∀ (xx:List Sn) (i4:Nat) (hd4:a.l.drop i4=xx) (hi4:i4≤a.l.length) (hq:a.l.length=b.l.length) (hL4:a.l.length≤9223372036854775807),(lim cfg).loop 34 lp34_4 ⟨26,[(0,.sl a.nl (a.l.map Sn.D) (zsl a.nl 2) none),(1,.sl b.nl (b.l.map Sn.D) (zsl b.nl 2) none),(5,I ((i4:Nat):Int))],[],0,0⟩=some (lr_r_Same_4 a b (r_Same_4 b xx i4)):=by
 intro xx
 induction xx with
 | nil =>
  intro i4 hd4 hi4 hq hL4
  unfold r_Same_4
  obtain rfl:i4=a.l.length:=nil_eq hd4 hi4
  exact zF [.rw 13 (I ((a.l.length:Nat):Int)),.dec false] (Ai (lt_no hd4) (Ai (zj Sn.D a) trivial)) (by kernel_rfl)
 | cons x4 xx ih =>
  intro i4 hd4 hi4 hq hL4
  have hlt4:=zc hd4
  unfold r_Same_4
  cases h3:(!((x4.lo == ((GS.at b ((i4:Nat):Int)).lo)) && ((x4.hi == ((GS.at b ((i4:Nat):Int)).hi)) && true))) with
  | true =>
   exact zF [.rw 13 (I ((a.l.length:Nat):Int)),.dec true,.el (.agg [I x4.lo,I x4.hi]),.el (.agg [I ((GS.at b ((i4:Nat):Int)).lo),I ((GS.at b ((i4:Nat):Int)).hi)]),.dec true] (Ai h3 (Ai (el_in (s:=b) (f:=Sn.D) (k:=2) (i:=((i4:Nat):Int)) (by omega) (by omega)) (Ai (el_at (s:=a) (f:=Sn.D) (k:=2) hd4) (Ai (yk hd4) (Ai (zj Sn.D a) trivial))))) (by kernel_rfl)
  | false =>
   exact po_turn [.rw 13 (I ((a.l.length:Nat):Int)),.dec true,.el (.agg [I x4.lo,I x4.hi]),.el (.agg [I ((GS.at b ((i4:Nat):Int)).lo),I ((GS.at b ((i4:Nat):Int)).hi)]),.dec false,.rw 16 (I ((i4+1:Nat):Int))] (Ai (zX (i:=i4) (by have:=zc hd4; omega)) (Ai h3 (Ai (el_in (s:=b) (f:=Sn.D) (k:=2) (i:=((i4:Nat):Int)) (by omega) (by omega)) (Ai (el_at (s:=a) (f:=Sn.D) (k:=2) hd4) (Ai (yk hd4) (Ai (zj Sn.D a) trivial)))))) (ih (i4+1) (ze hd4) (zc hd4) (by omega) (by omega)) (by kernel_rfl)

def r_Same (a:GS Sn) (b:GS Sn):Bool :=
 bif (((a.l.length:Nat):Int) != ((b.l.length:Nat):Int)) then
  false
 else
  match r_Same_4 b a.l 0 with
  | .x0 =>
   true
  | .x1 i4 x4 =>
   false

def sd12 (a:GS Sn) (b:GS Sn):St:=⟨26,[(14,B false),(13,I ((a.l.length:Nat):Int)),(12,.sl a.nl (a.l.map Sn.D) (zsl a.nl 2) none),(11,I ((a.l.length:Nat):Int)),(0,.sl a.nl (a.l.map Sn.D) (zsl a.nl 2) none),(1,.sl b.nl (b.l.map Sn.D) (zsl b.nl 2) none),(5,I ((a.l.length:Nat):Int))],[],0,0⟩

def sd13 (a:GS Sn) (b:GS Sn) (i4:Nat) (x4:Sn):St:=⟨26,[(4,B false),(25,B true),(24,.agg [I ((GS.at b ((i4:Nat):Int)).lo),I ((GS.at b ((i4:Nat):Int)).hi)]),(23,.ptr (.agg [I ((GS.at b ((i4:Nat):Int)).lo),I ((GS.at b ((i4:Nat):Int)).hi)])),(22,I ((i4:Nat):Int)),(21,.sl b.nl (b.l.map Sn.D) (zsl b.nl 2) none),(20,.agg [I x4.lo,I x4.hi]),(19,.ptr (.agg [I x4.lo,I x4.hi])),(18,I ((i4:Nat):Int)),(17,.sl a.nl (a.l.map Sn.D) (zsl a.nl 2) none),(14,B true),(13,I ((a.l.length:Nat):Int)),(12,.sl a.nl (a.l.map Sn.D) (zsl a.nl 2) none),(11,I ((i4:Nat):Int)),(0,.sl a.nl (a.l.map Sn.D) (zsl a.nl 2) none),(1,.sl b.nl (b.l.map Sn.D) (zsl b.nl 2) none),(5,I ((i4:Nat):Int))],[],0,0⟩

theorem T_r_Same (a:GS Sn) (b:GS Sn) (hL_a:a.l.length≤9223372036854775807):(lim cfg).pure 34 [GS.D Sn.D 2 a,GS.D Sn.D 2 b]=some (B (r_Same a b)):=by
 unfold r_Same
 cases h1:(((a.l.length:Nat):Int) != ((b.l.length:Nat):Int)) with
 | true =>
  have g1:=bne_true h1
  exact zk [.rw 7 (I ((a.l.length:Nat):Int)),.rw 9 (I ((b.l.length:Nat):Int)),.dec true] (Ai h1 (Ai (zj Sn.D b) (Ai (zj Sn.D a) trivial))) (by kernel_rfl)
 | false =>
  have g1:=bne_false h1
  cases h4:r_Same_4 b a.l 0 with
  | x0 =>
   try dsimp only
   exact zk [.rw 7 (I ((a.l.length:Nat):Int)),.rw 9 (I ((b.l.length:Nat):Int)),.dec false,.loop (.exit 0) (sd12 a b)] (Ai (zZ (q:=lr_r_Same_4 a b) (lp_r_Same_4 a b a.l 0 (List.drop_zero) (Nat.zero_le _) (by omega) (by omega)) h4) (Ai h1 (Ai (zj Sn.D b) (Ai (zj Sn.D a) trivial)))) (by kernel_rfl)
  | x1 i4 x4 =>
   try dsimp only
   exact zk [.rw 7 (I ((a.l.length:Nat):Int)),.rw 9 (I ((b.l.length:Nat):Int)),.dec false,.loop .ret (sd13 a b i4 x4)] (Ai (zZ (q:=lr_r_Same_4 a b) (lp_r_Same_4 a b a.l 0 (List.drop_zero) (Nat.zero_le _) (by omega) (by omega)) h4) (Ai h1 (Ai (zj Sn.D b) (Ai (zj Sn.D a) trivial)))) (by kernel_rfl)

end Go.VS

namespace Go.VS
open Go Go.Proofs
set_option maxHeartbeats 0
set_option linter.unusedSimpArgs false
set_option linter.unusedVariables false
theorem zY (l:List Sn):(zq zo l).length=l.length:=srtG_len gcmp_lo l
theorem T_sort (o nxt:Nat) (cap:Option Nat) (l:List Sn) (hl:l.length≤1099511627776):(lim cfg).inl 103 [.lsl o 0 l.length 2 cap,.fn (.func 104) [] []] [(o,⟨l.map Sn.D,2,false⟩)] nxt=some (.tup [],[(o,⟨(zq zo l).map Sn.D,2,false⟩)],nxt) :=
 inl_of (sortN_at (f:=Sn.D) (g:=104) (cf:=zo) (to:=fun x=>(x.lo,x.hi)) (of:=fun p=>⟨p.1,p.2⟩) (fun _=>rfl) (fun _=>rfl) o nxt cap l hl)
theorem T_sort_nil (nxt:Nat):(lim cfg).inl 103 [.sl true [] 0 none,.fn (.func 104) [] []] [] nxt=some (.tup [],[],nxt):=inl_of (sortN_nil (g:=104) (cf:=zo) nxt)

theorem z6:EncOK 2 Sn.D:=⟨fun _ _ _=>rfl,fun _ _=>rfl,fun _ _ _=>rfl,fun _=>⟨rfl,rfl⟩⟩

def zd (lo:Int) (hi:Int):(GS Sn) :=
 bif decide (lo > hi) then
  GS.nil
 else
  GS.some [(⟨lo,hi⟩:Sn)]

theorem T_ranges_some (lo:Int) (hi:Int):(lim cfg).pure 77 [I lo,I hi]=some (GS.D Sn.D 2 (zd lo hi)):=by
 unfold zd
 cases h1:decide (lo > hi) with
 | true =>
  have g1:=of_decide_eq_true h1
  exact zk [.dec true] (Ai h1 trivial) (by kernel_rfl)
 | false =>
  have g1:=of_decide_eq_false h1
  exact zk [.dec false] (Ai h1 trivial) (by kernel_rfl)

theorem some1 (lo hi:Int):(zd lo hi).l.length≤1:=by
 unfold zd
 cases decide (lo > hi) <;> simp [GS.nil,GS.some]
noncomputable def lp70_3:Code:=subC [1,1,0,1,0,0] (bodyC Tryz.f70)

noncomputable def lp69_4:Code:=subC [1,1,1,0,1,0,0] (bodyC Tryz.f69)

end Go.VS

namespace Go.VS
open Go
set_option maxHeartbeats 0
theorem in_iff {n lo hi:Int}:ranges_in n lo hi=true↔lo≤n∧n≤hi:=by
 unfold ranges_in
 simp only [Bool.cond_eq_ite,decide_eq_true_eq]
 constructor
 ·intro h
  split at h
  ·split at h
   ·omega
   ·cases h
  ·cases h
 ·intro h
  rw [if_pos (by omega),if_pos (by omega)]
def Ar (n:Int):Prop:=-1099511627776≤n∧n≤1099511627776
theorem area_iff {n:Int}:zh n=true↔Ar n:=by
 unfold zh Ar
 rw [← in_iff]
 cases ranges_in n (-1099511627776) 1099511627776 <;> simp
theorem area_no {n:Int}:zh n=false↔¬ Ar n:=by rw [← area_iff]; simp
theorem at_of' {r:GS Sn} {x:Sn} {rest:List Sn} {i:Nat} (h:r.l.drop i=x::rest):r.at (i:Int)=x:=by
 have hx:r.l[i]?=Option.some x:=by rw [← List.head?_drop,h]; rfl
 show r.l.getD ((i:Int)).toNat default=x
 rw [Int.toNat_natCast,List.getD_eq_getElem?_getD,hx]; rfl
def chn:Option Int→List Sn→Prop
 | _,[]=>True
 | p,s::l=>s.lo≤s.hi∧Ar s.lo∧Ar s.hi∧(∀ h,p=some h→h+1 < s.lo)∧chn (some s.hi) l
theorem chn_iff:∀ {l:List Sn} {p:Option Int},chn p l↔cn l∧bd l∧∀ h,p=some h→∀ t∈l,h+1 < t.lo
 | [],p=>⟨fun _=>⟨trivial,(fun s hs=>by cases hs),(fun h _ t ht=>by cases ht)⟩,fun _=>trivial⟩
 | s::l,p=>by
  simp only [chn]
  rw [chn_iff (l:=l) (p:=some s.hi)]
  constructor
  ·rintro ⟨h1,h2,h3,h4,h5,h6,h7⟩
   refine ⟨⟨h1,h7 s.hi rfl,h5⟩,fun t ht=>?_,fun h hp t ht=>?_⟩
   ·rcases List.mem_cons.1 ht with rfl | ht
    ·exact ⟨h2.1,h2.2,h3.1,h3.2⟩
    ·exact h6 t ht
   ·rcases List.mem_cons.1 ht with rfl | ht
    ·exact h4 h hp
    ·have:=h4 h hp; have:=h7 s.hi rfl t ht; omega
  ·rintro ⟨⟨h1,h2,h3⟩,h4,h5⟩
   have hs:=h4 s List.mem_cons_self
   exact ⟨h1,⟨hs.1,hs.2.1⟩,⟨hs.2.2.1,hs.2.2.2⟩,fun h hp=>h5 h hp s List.mem_cons_self,h3,fun t ht=>h4 t (List.mem_cons_of_mem _ ht),(fun h hp t ht=>by cases hp; exact h2 t ht)⟩
theorem ok_chn {l:List Sn}:Ok l↔chn none l∧l.length≤64:=by
 rw [chn_iff]
 exact ⟨fun h=>⟨⟨h.1,h.2.1,(fun h hp=>by cases hp)⟩,h.2.2⟩,fun h=>⟨h.1.1,h.1.2.1,h.2⟩⟩
def prv (r:GS Sn) (i:Nat):Option Int:=if i=0 then none else some (r.at ((i:Int) - 1)).hi
theorem check4 (r:GS Sn):∀ (l:List Sn) (i:Nat),r.l.drop i=l→i+l.length≤64→(∀ h,prv r i=some h→Ar h)→(ranges_Check_4 r l i=.x0↔chn (prv r i) l)
 | [],i,_,_,_=>by simp [ranges_Check_4,chn]
 | x::l,i,hd,hi,hp=>by
  have hx:=at_of' hd
  unfold ranges_Check_4
  simp only [chn]
  have hn:prv r (i+1)=some x.hi:=by
   unfold prv
   rw [if_neg (by omega),show ((i+1:Nat):Int) - 1=(i:Int) from by omega,hx]
  cases h1:decide (x.lo > x.hi) with
  | true=>have:=of_decide_eq_true h1; simp; intro; omega
  | false =>
   have h1:=of_decide_eq_false h1
   cases h2:zh x.lo with
   | false=>have:=area_no.1 h2; simp [this]
   | true =>
    have h2:=area_iff.1 h2
    cases h3:zh x.hi with
    | false=>have:=area_no.1 h3; simp [this]
    | true =>
     have h3:=area_iff.1 h3
     have hil:i < 64:=by simp only [List.length_cons] at hi; omega
     have ih:=check4 r l (i+1) (ze hd) (by simp only [List.length_cons] at hi; omega) (fun h hh=>by rw [hn] at hh; cases hh; exact h3)
     rw [hn] at ih
     simp only [cond_false,cond_true]
     by_cases h0:i=0
     ·subst h0
      rw [decide_eq_false (by omega),cond_false,ih]
      simp only [prv,if_true]
      exact ⟨fun h=>⟨by omega,h2,h3,fun _ hh=>(by cases hh),h⟩,fun h=>h.2.2.2.2⟩
     ·have e:prv r i=some (r.at ((i:Int) - 1)).hi:=by unfold prv; rw [if_neg h0]
      have ha:=hp _ e
      rw [decide_eq_true (by omega:((i:Nat):Int) > 0),cond_true,y7 (n:=((i:Nat):Int) - 1) (by omega) (by omega),e]
      unfold Ar at ha
      rw [y7 (by omega) (by omega)]
      cases h4:decide ((r.at ((i:Int) - 1)).hi+1 ≥ x.lo) with
      | true =>
       have:=of_decide_eq_true h4
       simp only [cond_true]
       exact ⟨fun h=>(by cases h),fun h=>by have:=h.2.2.2.1 _ rfl; omega⟩
      | false =>
       have:=of_decide_eq_false h4
       simp only [cond_false]
       rw [ih]
       exact ⟨fun h=>⟨by omega,h2,h3,fun _ hh=>(by cases hh; omega),h⟩,fun h=>h.2.2.2.2⟩
theorem check_iff {r:GS Sn}:zC r=0↔Ok r.l:=by
 rw [ok_chn]
 unfold zC
 cases h:decide (((r.l.length:Nat):Int) > 64) with
 | true=>have:=of_decide_eq_true h; simp only [cond_true]; exact ⟨fun h=>(by cases h),fun h=>by have:=h.2; omega⟩
 | false =>
  have h:=of_decide_eq_false h
  have k:=check4 r r.l 0 (List.drop_zero) (by omega) (fun h hh=>by cases hh)
  have e:prv r 0=none:=rfl
  rw [e] at k
  simp only [cond_false]
  rw [← k]
  cases ranges_Check_4 r r.l 0 <;> simp <;> omega
theorem check_20 {r:GS Sn} (h:¬ Ok r.l):zC r=20:=by
 rw [← check_iff] at h
 unfold zC at h ⊢
 cases hd:decide (((r.l.length:Nat):Int) > 64) with
 | true=>rfl
 | false =>
  rw [hd] at h
  simp only [cond_false] at h ⊢
  cases hh:ranges_Check_4 r r.l 0 <;> rw [hh] at h <;> simp at h ⊢
theorem valid4 (r:GS Sn):∀ (l:List Sn) (i:Nat),r.l.drop i=l→i+l.length≤64→(∀ h,prv r i=some h→Ar h)→(r_Valid_4 r l i=.x0↔chn (prv r i) l)
 | [],i,_,_,_=>by simp [r_Valid_4,chn]
 | x::l,i,hd,hi,hp=>by
  have hx:=at_of' hd
  have hil:i < 64:=by simp only [List.length_cons] at hi; omega
  unfold r_Valid_4
  simp only [chn]
  have hn:prv r (i+1)=some x.hi:=by
   unfold prv
   rw [if_neg (by omega),show ((i+1:Nat):Int) - 1=(i:Int) from by omega,hx]
  cases h1:decide (x.lo > x.hi) with
  | true=>have:=of_decide_eq_true h1; simp; intro; omega
  | false =>
   have h1:=of_decide_eq_false h1
   cases h2:decide (x.lo < -1099511627776) with
   | true=>have:=of_decide_eq_true h2; simp [Ar]; intros; omega
   | false =>
    have h2:=of_decide_eq_false h2
    cases h3:decide (x.hi > 1099511627776) with
    | true=>have:=of_decide_eq_true h3; simp [Ar]; intros; omega
    | false =>
     have h3:=of_decide_eq_false h3
     have a1:Ar x.lo:=⟨by omega,by omega⟩
     have a2:Ar x.hi:=⟨by omega,by omega⟩
     have ih:=valid4 r l (i+1) (ze hd) (by simp only [List.length_cons] at hi; omega) (fun h hh=>by rw [hn] at hh; cases hh; exact a2)
     rw [hn] at ih
     simp only [cond_false]
     by_cases h0:i=0
     ·subst h0
      rw [decide_eq_false (by omega),cond_false,ih]
      simp only [prv,if_true]
      exact ⟨fun h=>⟨by omega,a1,a2,fun _ hh=>(by cases hh),h⟩,fun h=>h.2.2.2.2⟩
     ·have e:prv r i=some (r.at ((i:Int) - 1)).hi:=by unfold prv; rw [if_neg h0]
      have ha:=hp _ e
      rw [decide_eq_true (by omega:((i:Nat):Int) > 0),cond_true,y7 (n:=((i:Nat):Int) - 1) (by omega) (by omega),e]
      unfold Ar at ha
      rw [y7 (by omega) (by omega)]
      cases h4:decide ((r.at ((i:Int) - 1)).hi+1 ≥ x.lo) with
      | true =>
       have:=of_decide_eq_true h4
       simp only [cond_true]
       exact ⟨fun h=>(by cases h),fun h=>by have:=h.2.2.2.1 _ rfl; omega⟩
      | false =>
       have:=of_decide_eq_false h4
       simp only [cond_false]
       rw [ih]
       exact ⟨fun h=>⟨by omega,a1,a2,fun _ hh=>(by cases hh; omega),h⟩,fun h=>h.2.2.2.2⟩
theorem valid_iff {r:GS Sn}:r_Valid r=true↔Ok r.l:=by
 rw [ok_chn]
 unfold r_Valid
 cases h:decide (((r.l.length:Nat):Int) > 64) with
 | true=>have:=of_decide_eq_true h; simp only [cond_true]; exact ⟨fun h=>(by cases h),fun h=>by have:=h.2; omega⟩
 | false =>
  have h:=of_decide_eq_false h
  have k:=valid4 r r.l 0 (List.drop_zero) (by omega) (fun h hh=>by cases hh)
  have e:prv r 0=none:=rfl
  rw [e] at k
  simp only [cond_false]
  rw [← k]
  cases r_Valid_4 r r.l 0 <;> simp <;> omega
theorem valid_no {r:GS Sn}:r_Valid r=false↔¬ Ok r.l:=by rw [← valid_iff]; simp
theorem check_valid (r:GS Sn):zC r=bif r_Valid r then 0 else 20:=by
 cases h:r_Valid r with
 | true=>exact check_iff.2 (valid_iff.1 h)
 | false=>exact check_20 (valid_no.1 h)
theorem same4 (b:GS Sn):∀ (l:List Sn) (i:Nat),i+l.length=b.l.length→(r_Same_4 b l i=.x0↔l=b.l.drop i)
 | [],i,h=>by
  have:b.l.drop i=[]:=List.drop_eq_nil_iff.2 (by simp at h; omega)
  simp [r_Same_4,this]
 | x::l,i,h=>by
  simp only [List.length_cons] at h
  have hlt:i < b.l.length:=by omega
  have hd:b.l.drop i=b.l[i]::b.l.drop (i+1):=List.drop_eq_getElem_cons hlt
  have hx:=at_of' hd
  unfold r_Same_4
  rw [hx,hd]
  have ih:=same4 b l (i+1) (by omega)
  generalize b.l[i]=y at *
  obtain ⟨x0,x1⟩:=x
  obtain ⟨y0,y1⟩:=y
  simp only [Bool.and_true,List.cons.injEq,Sn.mk.injEq]
  by_cases e0:x0=y0
  ·by_cases e1:x1=y1
   ·subst e0 e1
    simp only [beq_self_eq_true,Bool.and_self,Bool.not_true,cond_false,and_self,true_and]
    exact ih
   ·have:(x1 == y1)=false:=by simp [e1]
    rw [this,Bool.and_false,Bool.not_false,cond_true]
    exact ⟨fun h=>(by cases h),fun h=>absurd h.1.2 e1⟩
  ·have:(x0 == y0)=false:=by simp [e0]
   rw [this,Bool.false_and,Bool.not_false,cond_true]
   exact ⟨fun h=>(by cases h),fun h=>absurd h.1.1 e0⟩
theorem same_iff {a b:GS Sn}:r_Same a b=true↔a.l=b.l:=by
 unfold r_Same
 by_cases hl:a.l.length=b.l.length
 ·have:(((a.l.length:Nat):Int) != ((b.l.length:Nat):Int))=false:=by simp [hl]
  rw [this]
  have k:=same4 b a.l 0 (by omega)
  rw [List.drop_zero] at k
  simp only [cond_false]
  rw [← k]
  cases r_Same_4 b a.l 0 <;> simp
 ·have:(((a.l.length:Nat):Int) != ((b.l.length:Nat):Int))=true:=by simp; omega
  rw [this]
  simp only [cond_true]
  exact ⟨fun h=>(by cases h),fun h=>absurd (congrArg List.length h) hl⟩
theorem same_refl {a b:GS Sn} (h:a.l=b.l):r_Same a b=true:=same_iff.2 h
end Go.VS

namespace Go.VS
open Go Go.Proofs
set_option maxHeartbeats 0
set_option linter.unusedSimpArgs false
set_option linter.unusedVariables false
theorem add_some {n m k:Nat} {lo hi:Int} (h:(n+1) * k≤m):(n+(zd lo hi).l.length) * k≤m:=Nat.le_trans (Nat.mul_le_mul_right k (Nat.add_le_add_left (some1 lo hi) n)) h
theorem add_some' {n m:Nat} {lo hi:Int} (h:n+1≤m):n+(zd lo hi).l.length≤m:=Nat.le_trans (Nat.add_le_add_left (some1 lo hi) n) h
theorem one_some {m k:Nat} {lo hi:Int} (h:1 * k≤m):(zd lo hi).l.length * k≤m:=Nat.le_trans (Nat.mul_le_mul_right k (some1 lo hi)) h
theorem one_some' {m:Nat} {lo hi:Int} (h:1≤m):(zd lo hi).l.length≤m:=Nat.le_trans (some1 lo hi) h

inductive LR_ranges_outside_4 where
 | x0 (va4_0:List Sn) (va4_1:Int)
 | x1 (v4_0:Int)
instance:Inhabited LR_ranges_outside_4:=⟨.x0 default default⟩
def ranges_outside_4a:List Sn→(List Sn)→Int→LR_ranges_outside_4
 | [],va4_0,va4_1=>.x0 va4_0 va4_1
 | x4::xx,va4_0,va4_1 =>
  bif ((zd va4_1 (w64 (x4.lo - 1))).l).isEmpty then
   ranges_outside_4a xx va4_0 (w64 (x4.hi+1))
  else
   ranges_outside_4a xx (va4_0++((zd va4_1 (w64 (x4.lo - 1))).l)) (w64 (x4.hi+1))
def ranges_outside_4:List Sn→Int→LR_ranges_outside_4
 | [],v4_0=>.x1 v4_0
 | x4::xx,v4_0 =>
  bif ((zd v4_0 (w64 (x4.lo - 1))).l).isEmpty then
   ranges_outside_4 xx (w64 (x4.hi+1))
  else
   ranges_outside_4a xx ((zd v4_0 (w64 (x4.lo - 1))).l) (w64 (x4.hi+1))
def ranges_outside (r:GS Sn):(GS Sn) :=
 match ranges_outside_4 r.l (-1099511627776) with
 | .x0 va4_0 va4_1 =>
  bif ((zd va4_1 1099511627776).l).isEmpty then
   GS.some va4_0
  else
   GS.some (va4_0++((zd va4_1 1099511627776).l))
 | .x1 v4_0 =>
  bif ((zd v4_0 1099511627776).l).isEmpty then
   GS.nil
  else
   GS.some ((zd v4_0 1099511627776).l)

end Go.VS

namespace Go.VS
open Go Go.Proofs
set_option maxHeartbeats 0
set_option linter.unusedSimpArgs false
set_option linter.unusedVariables false
def sd63 (yH:List Sn) (x6:Nat) (yT:List Sn) (yQ:Sn) (yn:List Sn):St:=⟨65,[(12,I ((x6+1:Nat):Int)),(60,I ((x6+1:Nat):Int)),(55,.lref 2 ((w64 (((yn.length:Nat):Int) - 1)).toNat) 2 1),(54,.lref 2 ((w64 (((yn.length:Nat):Int) - 1)).toNat) 2 0),(53,I (zu ((yn.getD ((w64 (((yn.length:Nat):Int) - 1)).toNat) default).hi) yQ.hi)),(52,I yQ.hi),(51,.lref 3 0 2 1),(50,I ((yn.getD ((w64 (((yn.length:Nat):Int) - 1)).toNat) default).hi)),(49,.lref 2 ((w64 (((yn.length:Nat):Int) - 1)).toNat) 2 1),(48,.lref 2 ((w64 (((yn.length:Nat):Int) - 1)).toNat) 2 0),(47,I (w64 (((yn.length:Nat):Int) - 1))),(46,I ((yn.length:Nat):Int)),(45,.lsl 2 0 yn.length 2 none),(44,I (w64 (((yn.length:Nat):Int) - 1))),(43,I ((yn.length:Nat):Int)),(42,.lsl 2 0 yn.length 2 none),(41,B true),(40,B true),(39,I (w64 (((yn.getD ((w64 (((yn.length:Nat):Int) - 1)).toNat) default).hi)+1))),(38,I ((yn.getD ((w64 (((yn.length:Nat):Int) - 1)).toNat) default).hi)),(37,.lref 2 ((w64 (((yn.length:Nat):Int) - 1)).toNat) 2 1),(36,.lref 2 ((w64 (((yn.length:Nat):Int) - 1)).toNat) 2 0),(35,I (w64 (((yn.length:Nat):Int) - 1))),(34,I ((yn.length:Nat):Int)),(33,.lsl 2 0 yn.length 2 none),(32,I yQ.lo),(31,.lref 3 0 2 0),(30,B true),(29,B true),(28,I ((yn.length:Nat):Int)),(7,I ((yn.length:Nat):Int)),(27,I ((yn.length:Nat):Int)),(26,.lsl 2 0 yn.length 2 none),(25,B false),(24,B false),(23,B true),(22,I yQ.hi),(21,.lref 3 0 2 1),(20,B false),(19,B false),(18,B true),(17,I yQ.lo),(16,.lref 3 0 2 0),(6,.lref 3 0 2 0),(15,.agg [I yQ.lo,I yQ.hi]),(14,.lref 1 x6 2 0),(13,B true),(4,.lsl 2 0 yn.length 2 none),(10,.lsl 1 0 yH.length 2 none),(11,I ((yH.length:Nat):Int)),(12,I ((x6:Nat):Int))],[(1,⟨yT.map Sn.D,2,false⟩),(2,⟨(yn.set ((w64 (((yn.length:Nat):Int) - 1)).toNat) (⟨(yn.getD ((w64 (((yn.length:Nat):Int) - 1)).toNat) default).lo,zu ((yn.getD ((w64 (((yn.length:Nat):Int) - 1)).toNat) default).hi) yQ.hi⟩:Sn)).map Sn.D,2,false⟩),(3,⟨[.agg [I yQ.lo,I yQ.hi]],2,false⟩)],4,2⟩

def sd64 (yH:List Sn) (x6:Nat) (yT:List Sn) (yQ:Sn) (yn:List Sn):St:=⟨65,[(12,I ((x6+1:Nat):Int)),(60,I ((x6+1:Nat):Int)),(4,.lsl 5 0 ((yn++[yQ]).length) 2 none),(59,.lsl 5 0 ((yn++[yQ]).length) 2 none),(58,.lsl 4 0 1 2 (some 1)),(57,.agg [I yQ.lo,I yQ.hi]),(56,.lsl 2 0 yn.length 2 none),(41,B false),(40,B false),(39,I (w64 (((yn.getD ((w64 (((yn.length:Nat):Int) - 1)).toNat) default).hi)+1))),(38,I ((yn.getD ((w64 (((yn.length:Nat):Int) - 1)).toNat) default).hi)),(37,.lref 2 ((w64 (((yn.length:Nat):Int) - 1)).toNat) 2 1),(36,.lref 2 ((w64 (((yn.length:Nat):Int) - 1)).toNat) 2 0),(35,I (w64 (((yn.length:Nat):Int) - 1))),(34,I ((yn.length:Nat):Int)),(33,.lsl 2 0 yn.length 2 none),(32,I yQ.lo),(31,.lref 3 0 2 0),(30,B true),(29,B true),(28,I ((yn.length:Nat):Int)),(7,I ((yn.length:Nat):Int)),(27,I ((yn.length:Nat):Int)),(26,.lsl 2 0 yn.length 2 none),(25,B false),(24,B false),(23,B true),(22,I yQ.hi),(21,.lref 3 0 2 1),(20,B false),(19,B false),(18,B true),(17,I yQ.lo),(16,.lref 3 0 2 0),(6,.lref 3 0 2 0),(15,.agg [I yQ.lo,I yQ.hi]),(14,.lref 1 x6 2 0),(13,B true),(4,.lsl 2 0 yn.length 2 none),(10,.lsl 1 0 yH.length 2 none),(11,I ((yH.length:Nat):Int)),(12,I ((x6:Nat):Int))],[(1,⟨yT.map Sn.D,2,false⟩),(3,⟨[.agg [I yQ.lo,I yQ.hi]],2,false⟩),(4,⟨[.agg [I yQ.lo,I yQ.hi]],2,false⟩),(5,⟨(yn++[yQ]).map Sn.D,2,false⟩)],6,2⟩

def sd65 (yH:List Sn) (x6:Nat) (yT:List Sn) (yQ:Sn) (yn:List Sn):St:=⟨65,[(12,I ((x6+1:Nat):Int)),(60,I ((x6+1:Nat):Int)),(4,.lsl 5 0 ((yn++[yQ]).length) 2 none),(59,.lsl 5 0 ((yn++[yQ]).length) 2 none),(58,.lsl 4 0 1 2 (some 1)),(57,.agg [I yQ.lo,I yQ.hi]),(56,.lsl 2 0 yn.length 2 none),(41,B false),(40,.tup []),(39,.tup []),(38,.tup []),(37,.tup []),(36,.tup []),(35,.tup []),(34,.tup []),(33,.tup []),(32,.tup []),(31,.tup []),(30,B false),(29,B false),(28,I ((yn.length:Nat):Int)),(7,I ((yn.length:Nat):Int)),(27,I ((yn.length:Nat):Int)),(26,.lsl 2 0 yn.length 2 none),(25,B false),(24,B false),(23,B true),(22,I yQ.hi),(21,.lref 3 0 2 1),(20,B false),(19,B false),(18,B true),(17,I yQ.lo),(16,.lref 3 0 2 0),(6,.lref 3 0 2 0),(15,.agg [I yQ.lo,I yQ.hi]),(14,.lref 1 x6 2 0),(13,B true),(4,.lsl 2 0 yn.length 2 none),(10,.lsl 1 0 yH.length 2 none),(11,I ((yH.length:Nat):Int)),(12,I ((x6:Nat):Int))],[(1,⟨yT.map Sn.D,2,false⟩),(3,⟨[.agg [I yQ.lo,I yQ.hi]],2,false⟩),(4,⟨[.agg [I yQ.lo,I yQ.hi]],2,false⟩),(5,⟨(yn++[yQ]).map Sn.D,2,false⟩)],6,2⟩

def sd66 (yH:List Sn) (x6:Nat) (yT:List Sn) (yQ:Sn):St:=⟨65,[(12,I ((x6+1:Nat):Int)),(60,I ((x6+1:Nat):Int)),(4,.lsl 4 0 1 2 none),(59,.lsl 4 0 1 2 none),(58,.lsl 3 0 1 2 (some 1)),(57,.agg [I yQ.lo,I yQ.hi]),(56,.sl true [] 0 none),(41,B false),(40,.tup []),(39,.tup []),(38,.tup []),(37,.tup []),(36,.tup []),(35,.tup []),(34,.tup []),(33,.tup []),(32,.tup []),(31,.tup []),(30,B false),(29,B false),(28,I 0),(7,I 0),(27,I 0),(26,.sl true [] 0 none),(25,B false),(24,B false),(23,B true),(22,I yQ.hi),(21,.lref 2 0 2 1),(20,B false),(19,B false),(18,B true),(17,I yQ.lo),(16,.lref 2 0 2 0),(6,.lref 2 0 2 0),(15,.agg [I yQ.lo,I yQ.hi]),(14,.lref 1 x6 2 0),(13,B true),(4,.sl true [] 0 none),(10,.lsl 1 0 yH.length 2 none),(11,I ((yH.length:Nat):Int)),(12,I ((x6:Nat):Int))],[(1,⟨yT.map Sn.D,2,false⟩),(2,⟨[.agg [I yQ.lo,I yQ.hi]],2,false⟩),(3,⟨[.agg [I yQ.lo,I yQ.hi]],2,false⟩),(4,⟨[.agg [I yQ.lo,I yQ.hi]],2,false⟩)],5,2⟩

inductive LR_ranges_gathered_4p1 where
 | x0 (yn:List Sn)
 | x1 (x6:Nat) (yQ:Sn) (yn:List Sn)
 | x2 (x6:Nat) (yQ:Sn) (yn:List Sn)
 | x3
 | x4 (x6:Nat) (yQ:Sn)
 | x5 (x6:Nat) (yQ:Sn)
instance:Inhabited LR_ranges_gathered_4p1:=⟨.x0 default⟩
def zR:List Sn→Nat→(List Sn)→LR_ranges_gathered_4p1
 | [],x6,yn=>.x0 yn
 | yQ::xc,x6,yn =>
  bif (zh yQ.lo) then
   bif (zh yQ.hi) then
    bif decide (((yn.length:Nat):Int) > 0) then
     bif decide (yQ.lo≤(w64 (((yn.getD ((w64 (((yn.length:Nat):Int) - 1)).toNat) default).hi)+1))) then
      zR xc (x6+1) (yn.set ((w64 (((yn.length:Nat):Int) - 1)).toNat) (⟨(yn.getD ((w64 (((yn.length:Nat):Int) - 1)).toNat) default).lo,zu ((yn.getD ((w64 (((yn.length:Nat):Int) - 1)).toNat) default).hi) yQ.hi⟩:Sn))
     else
      zR xc (x6+1) (yn++[yQ])
    else
     zR xc (x6+1) (yn++[yQ])
   else
    .x1 x6 yQ yn
  else
   .x2 x6 yQ yn
def zQ:List Sn→Nat→LR_ranges_gathered_4p1
 | [],x6=>.x3
 | yQ::xc,x6 =>
  bif (zh yQ.lo) then
   bif (zh yQ.hi) then
    zR xc (x6+1) [yQ]
   else
    .x4 x6 yQ
  else
   .x5 x6 yQ
def zz (yH:List Sn) (yT:List Sn):LR_ranges_gathered_4p1→Exit × St
 | .x0 yn=>((.exit 0),⟨65,[(13,B false),(4,.lsl 2 0 yn.length 2 none),(10,.lsl 1 0 yH.length 2 none),(11,I ((yH.length:Nat):Int)),(12,I ((yT.length:Nat):Int))],[(1,⟨yT.map Sn.D,2,false⟩),(2,⟨yn.map Sn.D,2,false⟩)],3,2⟩)
 | .x1 x6 yQ yn=>(.ret,⟨65,[(3,I 2),(2,.sl true [] 0 none),(25,B true),(24,B true),(23,B false),(22,I yQ.hi),(21,.lref 3 0 2 1),(20,B false),(19,B false),(18,B true),(17,I yQ.lo),(16,.lref 3 0 2 0),(6,.lref 3 0 2 0),(15,.agg [I yQ.lo,I yQ.hi]),(14,.lref 1 x6 2 0),(13,B true),(4,.lsl 2 0 yn.length 2 none),(10,.lsl 1 0 yH.length 2 none),(11,I ((yH.length:Nat):Int)),(12,I ((x6:Nat):Int))],[(1,⟨yT.map Sn.D,2,false⟩),(2,⟨yn.map Sn.D,2,false⟩),(3,⟨[.agg [I yQ.lo,I yQ.hi]],2,false⟩)],4,2⟩)
 | .x2 x6 yQ yn=>(.ret,⟨65,[(3,I 2),(2,.sl true [] 0 none),(25,B true),(24,.tup []),(23,.tup []),(22,.tup []),(21,.tup []),(20,B true),(19,B true),(18,B false),(17,I yQ.lo),(16,.lref 3 0 2 0),(6,.lref 3 0 2 0),(15,.agg [I yQ.lo,I yQ.hi]),(14,.lref 1 x6 2 0),(13,B true),(4,.lsl 2 0 yn.length 2 none),(10,.lsl 1 0 yH.length 2 none),(11,I ((yH.length:Nat):Int)),(12,I ((x6:Nat):Int))],[(1,⟨yT.map Sn.D,2,false⟩),(2,⟨yn.map Sn.D,2,false⟩),(3,⟨[.agg [I yQ.lo,I yQ.hi]],2,false⟩)],4,2⟩)
 | .x3=>((.exit 0),⟨65,[(13,B false),(4,.sl true [] 0 none),(10,.lsl 1 0 yH.length 2 none),(11,I ((yH.length:Nat):Int)),(12,I ((yT.length:Nat):Int))],[(1,⟨yT.map Sn.D,2,false⟩)],2,2⟩)
 | .x4 x6 yQ=>(.ret,⟨65,[(3,I 2),(2,.sl true [] 0 none),(25,B true),(24,B true),(23,B false),(22,I yQ.hi),(21,.lref 2 0 2 1),(20,B false),(19,B false),(18,B true),(17,I yQ.lo),(16,.lref 2 0 2 0),(6,.lref 2 0 2 0),(15,.agg [I yQ.lo,I yQ.hi]),(14,.lref 1 x6 2 0),(13,B true),(4,.sl true [] 0 none),(10,.lsl 1 0 yH.length 2 none),(11,I ((yH.length:Nat):Int)),(12,I ((x6:Nat):Int))],[(1,⟨yT.map Sn.D,2,false⟩),(2,⟨[.agg [I yQ.lo,I yQ.hi]],2,false⟩)],3,2⟩)
 | .x5 x6 yQ=>(.ret,⟨65,[(3,I 2),(2,.sl true [] 0 none),(25,B true),(24,.tup []),(23,.tup []),(22,.tup []),(21,.tup []),(20,B true),(19,B true),(18,B false),(17,I yQ.lo),(16,.lref 2 0 2 0),(6,.lref 2 0 2 0),(15,.agg [I yQ.lo,I yQ.hi]),(14,.lref 1 x6 2 0),(13,B true),(4,.sl true [] 0 none),(10,.lsl 1 0 yH.length 2 none),(11,I ((yH.length:Nat):Int)),(12,I ((x6:Nat):Int))],[(1,⟨yT.map Sn.D,2,false⟩),(2,⟨[.agg [I yQ.lo,I yQ.hi]],2,false⟩)],3,2⟩)
def zG (yH:List Sn) (yT:List Sn):LR_ranges_gathered_4p1→Prop
 | .x0 yn=>(1≤yn.length)∧(yn.length≤yT.length)
 | .x1 x6 yQ yn=>(1≤yn.length)∧(yn.length≤x6)
 | .x2 x6 yQ yn=>(1≤yn.length)∧(yn.length≤x6)
 | .x3=>True
 | .x4 x6 yQ=>True
 | .x5 x6 yQ=>True
def ranges_gathered_4p1a_l_o1 (x6:Nat) (yQ:Sn):List Ora:=[.dec true,.op (some 14) ⟨.lref 1 x6 2 0,[],[],3⟩,.op (some 15) ⟨.agg [I yQ.lo,I yQ.hi],[],[1],3⟩,.pure (B (zh yQ.lo))]
def ranges_gathered_4p1a_l_o2 (yQ:Sn) (yn:List Sn):List Ora:=[.dec true,.pure (B (zh yQ.hi)),.dec true,.dec true,.op (some 36) ⟨.lref 2 ((w64 (((yn.length:Nat):Int) - 1)).toNat) 2 0,[],[],4⟩,.op (some 38) ⟨I ((yn.getD ((w64 (((yn.length:Nat):Int) - 1)).toNat) default).hi),[],[2],4⟩]
theorem lp_ranges_gathered_4p1a (yH:List Sn) (yT:List Sn):∀ (xc:List Sn) (x6:Nat) (yn:List Sn) (xg:yT.drop x6=xc) (hi4p1:x6≤yT.length) (hz4p1_va4p1_0:1≤yn.length) (hq4p1:yT.length=yH.length) (hg4p1_va4p1_0:yn.length≤x6) (hL4p1:yT.length≤1099511627776),(lim cfg).loop 69 lp69_4 ⟨65,[(4,.lsl 2 0 yn.length 2 none),(10,.lsl 1 0 yH.length 2 none),(11,I ((yH.length:Nat):Int)),(12,I ((x6:Nat):Int))],[(1,⟨yT.map Sn.D,2,false⟩),(2,⟨yn.map Sn.D,2,false⟩)],3,2⟩=some (zz yH yT (zR xc x6 yn)):=by
 intro xc
 induction xc with
 | nil =>
  intro x6 yn xg hi4p1 hz4p1_va4p1_0 hq4p1 hg4p1_va4p1_0 hL4p1
  unfold zR
  obtain rfl:x6=yT.length:=nil_eq xg hi4p1
  exact zF [.dec false] (Ai (lt_no' xg hq4p1) trivial) (by kernel_rfl)
 | cons yQ xc ih =>
  intro x6 yn xg hi4p1 hz4p1_va4p1_0 hq4p1 hg4p1_va4p1_0 hL4p1
  have hlt4p1:=zc xg
  unfold zR
  have p1:=(idx_row (C:=cfg) (nxt:=3) (t:=22) (ty:=ty22) (te:=zM) (e:=25) (o:=1) (len:=yH.length) (sz:=2) (cap:=none) (i:=((x6:Nat):Int)) (by kernel_rfl) rfl (by kernel_rfl) rfl (by omega) (by omega))
  have p2:=(load_row (C:=cfg) (objs:=[(1,⟨yT.map Sn.D,2,false⟩),(2,⟨yn.map Sn.D,2,false⟩)]) (nxt:=3) (t:=25) (ty:=zM) (o:=1) (n:=x6) (sz:=2) (sub:=0) (ob:=⟨yT.map Sn.D,2,false⟩) (e:=Sn.D yQ) (d:=.agg [I yQ.lo,I yQ.hi]) (by kernel_rfl) (by kernel_rfl) rfl (row_at (f:=Sn.D) xg) (by kernel_rfl))
  cases h25:(zh yQ.lo) with
  | true =>
   cases h26:(zh yQ.hi) with
   | true =>
    cases h27:decide (((yn.length:Nat):Int) > 0) with
    | true =>
     have g27:=of_decide_eq_true h27
     have p3:=(idx_row (C:=cfg) (nxt:=4) (t:=23) (ty:=ty23) (te:=zM) (e:=25) (o:=2) (len:=yn.length) (sz:=2) (cap:=none) (i:=w64 (((yn.length:Nat):Int) - 1)) (by kernel_rfl) rfl (by kernel_rfl) rfl (by simp only [List.length_append,List.length_cons,List.length_nil,zi] at * <;> omega) (by simp only [List.length_append,List.length_cons,List.length_nil,zi] at * <;> omega))
     have p4:=(load_row (C:=cfg) (objs:=[(1,⟨yT.map Sn.D,2,false⟩),(2,⟨yn.map Sn.D,2,false⟩),(3,⟨[.agg [I yQ.lo,I yQ.hi]],2,false⟩)]) (nxt:=4) (t:=3) (ty:=ty3) (o:=2) (n:=(w64 (((yn.length:Nat):Int) - 1)).toNat) (sz:=2) (sub:=1) (ob:=⟨yn.map Sn.D,2,false⟩) (e:=Sn.D (yn.getD ((w64 (((yn.length:Nat):Int) - 1)).toNat) default)) (d:=I ((yn.getD ((w64 (((yn.length:Nat):Int) - 1)).toNat) default).hi)) (by kernel_rfl) (by kernel_rfl) rfl (row_get (f:=Sn.D) (by simp only [List.length_append,List.length_cons,List.length_nil,zi] at * <;> omega)) (by kernel_rfl))
     cases h28:decide (yQ.lo≤(w64 (((yn.getD ((w64 (((yn.length:Nat):Int) - 1)).toNat) default).hi)+1))) with
     | true =>
      have g28:=of_decide_eq_true h28
      exact zv (ks:=[4,10,11,12]) (st':=(sd63 yH x6 yT yQ yn)) ((ranges_gathered_4p1a_l_o1 x6 yQ)++((ranges_gathered_4p1a_l_o2 yQ yn)++[.dec true,.op (some 48) ⟨.lref 2 ((w64 (((yn.length:Nat):Int) - 1)).toNat) 2 0,[],[],4⟩,.op (some 50) ⟨I ((yn.getD ((w64 (((yn.length:Nat):Int) - 1)).toNat) default).hi),[],[2],4⟩,.op (some 54) ⟨.lref 2 ((w64 (((yn.length:Nat):Int) - 1)).toNat) 2 0,[],[],4⟩,.stS 2 ⟨.tup [],[(2,some ⟨(yn.set ((w64 (((yn.length:Nat):Int) - 1)).toNat) (⟨(yn.getD ((w64 (((yn.length:Nat):Int) - 1)).toNat) default).lo,zu ((yn.getD ((w64 (((yn.length:Nat):Int) - 1)).toNat) default).hi) yQ.hi⟩:Sn)).map Sn.D,2,false⟩)],[2],4⟩,.rw 60 (I ((x6+1:Nat):Int))])) (Ai (zX (i:=x6) (by have:=zc xg; omega)) (Ai (store_row (C:=cfg) (objs:=[(1,⟨yT.map Sn.D,2,false⟩),(2,⟨yn.map Sn.D,2,false⟩),(3,⟨[.agg [I yQ.lo,I yQ.hi]],2,false⟩)]) (nxt:=4) (t:=3) (ty:=ty3) (o:=2) (n:=(w64 (((yn.length:Nat):Int) - 1)).toNat) (sz:=2) (sub:=1) (els:=yn.map Sn.D) (els':=(yn.set ((w64 (((yn.length:Nat):Int) - 1)).toNat) (⟨(yn.getD ((w64 (((yn.length:Nat):Int) - 1)).toNat) default).lo,zu ((yn.getD ((w64 (((yn.length:Nat):Int) - 1)).toNat) default).hi) yQ.hi⟩:Sn)).map Sn.D) (e:=Sn.D (yn.getD ((w64 (((yn.length:Nat):Int) - 1)).toNat) default)) (e':=Sn.D (⟨(yn.getD ((w64 (((yn.length:Nat):Int) - 1)).toNat) default).lo,zu ((yn.getD ((w64 (((yn.length:Nat):Int) - 1)).toNat) default).hi) yQ.hi⟩:Sn)) (v:=I (zu ((yn.getD ((w64 (((yn.length:Nat):Int) - 1)).toNat) default).hi) yQ.hi)) (by kernel_rfl) (by kernel_rfl) (row_get (f:=Sn.D) (by simp only [List.length_append,List.length_cons,List.length_nil,zi] at * <;> omega)) rfl (by kernel_rfl) rfl (by kernel_rfl) (row_set (f:=Sn.D))) (Ai (idx_row (C:=cfg) (nxt:=4) (t:=23) (ty:=ty23) (te:=zM) (e:=25) (o:=2) (len:=yn.length) (sz:=2) (cap:=none) (i:=w64 (((yn.length:Nat):Int) - 1)) (by kernel_rfl) rfl (by kernel_rfl) rfl (by simp only [List.length_append,List.length_cons,List.length_nil,zi] at * <;> omega) (by simp only [List.length_append,List.length_cons,List.length_nil,zi] at * <;> omega)) (Ai (load_row (C:=cfg) (objs:=[(1,⟨yT.map Sn.D,2,false⟩),(2,⟨yn.map Sn.D,2,false⟩),(3,⟨[.agg [I yQ.lo,I yQ.hi]],2,false⟩)]) (nxt:=4) (t:=3) (ty:=ty3) (o:=2) (n:=(w64 (((yn.length:Nat):Int) - 1)).toNat) (sz:=2) (sub:=1) (ob:=⟨yn.map Sn.D,2,false⟩) (e:=Sn.D (yn.getD ((w64 (((yn.length:Nat):Int) - 1)).toNat) default)) (d:=I ((yn.getD ((w64 (((yn.length:Nat):Int) - 1)).toNat) default).hi)) (by kernel_rfl) (by kernel_rfl) rfl (row_get (f:=Sn.D) (by simp only [List.length_append,List.length_cons,List.length_nil,zi] at * <;> omega)) (by kernel_rfl)) (Ai (idx_row (C:=cfg) (nxt:=4) (t:=23) (ty:=ty23) (te:=zM) (e:=25) (o:=2) (len:=yn.length) (sz:=2) (cap:=none) (i:=w64 (((yn.length:Nat):Int) - 1)) (by kernel_rfl) rfl (by kernel_rfl) rfl (by simp only [List.length_append,List.length_cons,List.length_nil,zi] at * <;> omega) (by simp only [List.length_append,List.length_cons,List.length_nil,zi] at * <;> omega)) (Ai h28 (Ai p4 (Ai p3 (Ai h27 (Ai h26 (Ai (zb yQ.hi) (Ai h25 (Ai (zb yQ.lo) (Ai p2 (Ai p1 (Ai (lt_at' xg hq4p1) trivial)))))))))))))))) (by kernel_rfl) (by (simp only [sd63,go_sem,List.length_set,Nat.reduceAdd,Nat.reduceEqDiff,Nat.reduceLT,Nat.reduceLeDiff,bI2,z8.idsL,z8.renL,z8.snapAll,z6.idsL,z6.renL,z6.snapAll]) <;> rfl) (ih (x6+1) (yn.set ((w64 (((yn.length:Nat):Int) - 1)).toNat) (⟨(yn.getD ((w64 (((yn.length:Nat):Int) - 1)).toNat) default).lo,zu ((yn.getD ((w64 (((yn.length:Nat):Int) - 1)).toNat) default).hi) yQ.hi⟩:Sn)) (ze xg) (zc xg) (by simp only [List.length_set] at * <;> omega) (by omega) (by simp only [List.length_set] at * <;> omega) (by omega)) (by kernel_rfl)
     | false =>
      have g28:=of_decide_eq_false h28
      exact zv (ks:=[4,10,11,12]) (st':=(sd64 yH x6 yT yQ yn)) ((ranges_gathered_4p1a_l_o1 x6 yQ)++((ranges_gathered_4p1a_l_o2 yQ yn)++[.dec false,.op (some 59) ⟨.lsl 5 0 ((yn++[yQ]).length) 2 none,[(2,none),(5,some ⟨(yn++[yQ]).map Sn.D,2,false⟩)],[2,4],6⟩,.rw 60 (I ((x6+1:Nat):Int))])) (Ai (zX (i:=x6) (by have:=zc xg; omega)) (Ai (app_row (f:=Sn.D) (te:=zM) (gO:=zp [(1,⟨yT.map Sn.D,2,false⟩),(2,⟨yn.map Sn.D,2,false⟩),(3,⟨[.agg [I yQ.lo,I yQ.hi]],2,false⟩),(4,⟨[.agg [I yQ.lo,I yQ.hi]],2,false⟩)]) (nxt:=5) (o:=2) (o2:=4) (fz:=false) z6 yn yQ (by kernel_rfl) (by kernel_rfl) rfl (by kernel_rfl) (by decide) ⟨by simp only [zM,big] <;> (omega),by simp only [big] <;> (omega)⟩) (Ai h28 (Ai p4 (Ai p3 (Ai h27 (Ai h26 (Ai (zb yQ.hi) (Ai h25 (Ai (zb yQ.lo) (Ai p2 (Ai p1 (Ai (lt_at' xg hq4p1) trivial))))))))))))) (by kernel_rfl) (by (simp only [sd64,go_sem,List.length_set,Nat.reduceAdd,Nat.reduceEqDiff,Nat.reduceLT,Nat.reduceLeDiff,bI2,z8.idsL,z8.renL,z8.snapAll,z6.idsL,z6.renL,z6.snapAll]) <;> rfl) (ih (x6+1) (yn++[yQ]) (ze xg) (zc xg) (by simp only [List.length_append,List.length_cons,List.length_nil] at * <;> omega) (by omega) (by simp only [List.length_append,List.length_cons,List.length_nil] at * <;> omega) (by omega)) (by kernel_rfl)
    | false =>
     have g27:=of_decide_eq_false h27
     exact zv (ks:=[4,10,11,12]) (st':=(sd65 yH x6 yT yQ yn)) ((ranges_gathered_4p1a_l_o1 x6 yQ)++[.dec true,.pure (B (zh yQ.hi)),.dec true,.dec false,.op (some 59) ⟨.lsl 5 0 ((yn++[yQ]).length) 2 none,[(2,none),(5,some ⟨(yn++[yQ]).map Sn.D,2,false⟩)],[2,4],6⟩,.rw 60 (I ((x6+1:Nat):Int))]) (Ai (zX (i:=x6) (by have:=zc xg; omega)) (Ai (app_row (f:=Sn.D) (te:=zM) (gO:=zp [(1,⟨yT.map Sn.D,2,false⟩),(2,⟨yn.map Sn.D,2,false⟩),(3,⟨[.agg [I yQ.lo,I yQ.hi]],2,false⟩),(4,⟨[.agg [I yQ.lo,I yQ.hi]],2,false⟩)]) (nxt:=5) (o:=2) (o2:=4) (fz:=false) z6 yn yQ (by kernel_rfl) (by kernel_rfl) rfl (by kernel_rfl) (by decide) ⟨by simp only [zM,big] <;> (omega),by simp only [big] <;> (omega)⟩) (Ai h27 (Ai h26 (Ai (zb yQ.hi) (Ai h25 (Ai (zb yQ.lo) (Ai p2 (Ai p1 (Ai (lt_at' xg hq4p1) trivial)))))))))) (by kernel_rfl) (by (simp only [sd65,go_sem,List.length_set,Nat.reduceAdd,Nat.reduceEqDiff,Nat.reduceLT,Nat.reduceLeDiff,bI2,z8.idsL,z8.renL,z8.snapAll,z6.idsL,z6.renL,z6.snapAll]) <;> rfl) (ih (x6+1) (yn++[yQ]) (ze xg) (zc xg) (by omega) (by omega) (by omega) (by omega)) (by kernel_rfl)
   | false =>
    exact zF ((ranges_gathered_4p1a_l_o1 x6 yQ)++[.dec true,.pure (B (zh yQ.hi)),.dec false]) (Ai h26 (Ai (zb yQ.hi) (Ai h25 (Ai (zb yQ.lo) (Ai p2 (Ai p1 (Ai (lt_at' xg hq4p1) trivial))))))) (by kernel_rfl)
  | false =>
   exact zF ((ranges_gathered_4p1a_l_o1 x6 yQ)++[.dec false]) (Ai h25 (Ai (zb yQ.lo) (Ai p2 (Ai p1 (Ai (lt_at' xg hq4p1) trivial))))) (by kernel_rfl)
theorem ivt_ranges_gathered_4p1a (yH:List Sn) (yT:List Sn):∀ (xc:List Sn) (x6:Nat) (yn:List Sn) (xg:yT.drop x6=xc) (hi4p1:x6≤yT.length) (hz4p1_va4p1_0:1≤yn.length) (hq4p1:yT.length=yH.length) (hg4p1_va4p1_0:yn.length≤x6) (hL4p1:yT.length≤1099511627776),zG yH yT (zR xc x6 yn):=by
 intro xc
 induction xc with
 | nil =>
  intro x6 yn xg hi4p1 hz4p1_va4p1_0 hq4p1 hg4p1_va4p1_0 hL4p1
  unfold zR
  obtain rfl:x6=yT.length:=nil_eq xg hi4p1
  exact ⟨hz4p1_va4p1_0,hg4p1_va4p1_0⟩
 | cons yQ xc ih =>
  intro x6 yn xg hi4p1 hz4p1_va4p1_0 hq4p1 hg4p1_va4p1_0 hL4p1
  have hlt4p1:=zc xg
  unfold zR
  cases h25:(zh yQ.lo) with
  | true =>
   cases h26:(zh yQ.hi) with
   | true =>
    cases h27:decide (((yn.length:Nat):Int) > 0) with
    | true =>
     have g27:=of_decide_eq_true h27
     cases h28:decide (yQ.lo≤(w64 (((yn.getD ((w64 (((yn.length:Nat):Int) - 1)).toNat) default).hi)+1))) with
     | true =>
      have g28:=of_decide_eq_true h28
      exact ih (x6+1) (yn.set ((w64 (((yn.length:Nat):Int) - 1)).toNat) (⟨(yn.getD ((w64 (((yn.length:Nat):Int) - 1)).toNat) default).lo,zu ((yn.getD ((w64 (((yn.length:Nat):Int) - 1)).toNat) default).hi) yQ.hi⟩:Sn)) (ze xg) (zc xg) (by simp only [List.length_set] at * <;> omega) (by omega) (by simp only [List.length_set] at * <;> omega) (by omega)
     | false =>
      have g28:=of_decide_eq_false h28
      exact ih (x6+1) (yn++[yQ]) (ze xg) (zc xg) (by simp only [List.length_append,List.length_cons,List.length_nil] at * <;> omega) (by omega) (by simp only [List.length_append,List.length_cons,List.length_nil] at * <;> omega) (by omega)
    | false =>
     have g27:=of_decide_eq_false h27
     exact ih (x6+1) (yn++[yQ]) (ze xg) (zc xg) (by omega) (by omega) (by omega) (by omega)
   | false =>
    exact ⟨hz4p1_va4p1_0,hg4p1_va4p1_0⟩
  | false =>
   exact ⟨hz4p1_va4p1_0,hg4p1_va4p1_0⟩
def ranges_gathered_4p1_l_o1 (x6:Nat) (yQ:Sn):List Ora:=[.dec true,.op (some 14) ⟨.lref 1 x6 2 0,[],[],2⟩,.op (some 15) ⟨.agg [I yQ.lo,I yQ.hi],[],[1],2⟩,.pure (B (zh yQ.lo))]
theorem lp_ranges_gathered_4p1 (yH:List Sn) (yT:List Sn):∀ (xc:List Sn) (x6:Nat) (xg:yT.drop x6=xc) (hi4p1:x6≤yT.length) (hq4p1:yT.length=yH.length) (hL4p1:yT.length≤1099511627776),(lim cfg).loop 69 lp69_4 ⟨65,[(4,.sl true [] 0 none),(10,.lsl 1 0 yH.length 2 none),(11,I ((yH.length:Nat):Int)),(12,I ((x6:Nat):Int))],[(1,⟨yT.map Sn.D,2,false⟩)],2,2⟩=some (zz yH yT (zQ xc x6)):=by
 intro xc
 induction xc with
 | nil =>
  intro x6 xg hi4p1 hq4p1 hL4p1
  unfold zQ
  obtain rfl:x6=yT.length:=nil_eq xg hi4p1
  exact zF [.dec false] (Ai (lt_no' xg hq4p1) trivial) (by kernel_rfl)
 | cons yQ xc ih =>
  intro x6 xg hi4p1 hq4p1 hL4p1
  have hlt4p1:=zc xg
  unfold zQ
  dsimp only
  have p1:=(idx_row (C:=cfg) (nxt:=2) (t:=22) (ty:=ty22) (te:=zM) (e:=25) (o:=1) (len:=yH.length) (sz:=2) (cap:=none) (i:=((x6:Nat):Int)) (by kernel_rfl) rfl (by kernel_rfl) rfl (by omega) (by omega))
  have p2:=(load_row (C:=cfg) (objs:=[(1,⟨yT.map Sn.D,2,false⟩)]) (nxt:=2) (t:=25) (ty:=zM) (o:=1) (n:=x6) (sz:=2) (sub:=0) (ob:=⟨yT.map Sn.D,2,false⟩) (e:=Sn.D yQ) (d:=.agg [I yQ.lo,I yQ.hi]) (by kernel_rfl) (by kernel_rfl) rfl (row_at (f:=Sn.D) xg) (by kernel_rfl))
  cases h29:(zh yQ.lo) with
  | true =>
   cases h30:(zh yQ.hi) with
   | true =>
    exact zv (ks:=[4,10,11,12]) (st':=(sd66 yH x6 yT yQ)) ((ranges_gathered_4p1_l_o1 x6 yQ)++[.dec true,.pure (B (zh yQ.hi)),.dec true,.dec false,.rw 60 (I ((x6+1:Nat):Int))]) (Ai (zX (i:=x6) (by have:=zc xg; omega)) (Ai (Eq.refl false) (Ai h30 (Ai (zb yQ.hi) (Ai h29 (Ai (zb yQ.lo) (Ai p2 (Ai p1 (Ai (lt_at' xg hq4p1) trivial))))))))) (by kernel_rfl) (by (simp only [sd66,go_sem,List.length_set,Nat.reduceAdd,Nat.reduceEqDiff,Nat.reduceLT,Nat.reduceLeDiff,bI2,z8.idsL,z8.renL,z8.snapAll,z6.idsL,z6.renL,z6.snapAll]) <;> rfl) (lp_ranges_gathered_4p1a yH yT _ (x6+1) [yQ] (ze xg) (zc xg) (by simp only [List.length_append,List.length_cons,List.length_nil] at * <;> omega) (by omega) (by simp only [List.length_append,List.length_cons,List.length_nil] at * <;> omega) (by omega)) (by kernel_rfl)
   | false =>
    exact zF ((ranges_gathered_4p1_l_o1 x6 yQ)++[.dec true,.pure (B (zh yQ.hi)),.dec false]) (Ai h30 (Ai (zb yQ.hi) (Ai h29 (Ai (zb yQ.lo) (Ai p2 (Ai p1 (Ai (lt_at' xg hq4p1) trivial))))))) (by kernel_rfl)
  | false =>
   exact zF ((ranges_gathered_4p1_l_o1 x6 yQ)++[.dec false]) (Ai h29 (Ai (zb yQ.lo) (Ai p2 (Ai p1 (Ai (lt_at' xg hq4p1) trivial))))) (by kernel_rfl)
theorem ivt_ranges_gathered_4p1 (yH:List Sn) (yT:List Sn):∀ (xc:List Sn) (x6:Nat) (xg:yT.drop x6=xc) (hi4p1:x6≤yT.length) (hq4p1:yT.length=yH.length) (hL4p1:yT.length≤1099511627776),zG yH yT (zQ xc x6):=by
 intro xc
 induction xc with
 | nil =>
  intro x6 xg hi4p1 hq4p1 hL4p1
  unfold zQ
  obtain rfl:x6=yT.length:=nil_eq xg hi4p1
  exact trivial
 | cons yQ xc ih =>
  intro x6 xg hi4p1 hq4p1 hL4p1
  have hlt4p1:=zc xg
  unfold zQ
  dsimp only
  cases h29:(zh yQ.lo) with
  | true =>
   cases h30:(zh yQ.hi) with
   | true =>
    exact ivt_ranges_gathered_4p1a yH yT _ (x6+1) [yQ] (ze xg) (zc xg) (by simp only [List.length_append,List.length_cons,List.length_nil] at * <;> omega) (by omega) (by simp only [List.length_append,List.length_cons,List.length_nil] at * <;> omega) (by omega)
   | false =>
    exact trivial
  | false =>
   exact trivial

end Go.VS

namespace Go.VS
open Go Go.Proofs
set_option maxHeartbeats 0
set_option linter.unusedSimpArgs false
set_option linter.unusedVariables false
end Go.VS

namespace Go.VS
open Go
set_option maxHeartbeats 0
theorem some_l (lo hi:Int):(zd lo hi).l=someS lo hi:=by
 unfold zd someS
 by_cases h:lo > hi
 ·rw [decide_eq_true h,if_pos h]; rfl
 ·rw [decide_eq_false h,if_neg h]; rfl
theorem emp_app {α:Type} {v l:List α} {β:Type} (f:List α→β):(bif l.isEmpty then f v else f (v++l))=f (v++l):=by
 cases l <;> simp
theorem out4a_len:∀ (l v:List Sn) (f:Int),∃ v' f',ranges_outside_4a l v f=.x0 v' f'∧v'.length≤v.length+l.length
 | [],v,f=>⟨v,f,rfl,Nat.le_refl _⟩
 | x::l,v,f=>by
  unfold ranges_outside_4a
  rw [emp_app (fun z=>ranges_outside_4a l z (w64 (x.hi+1)))]
  obtain ⟨v',f',e,h⟩:=out4a_len l (v++(zd f (w64 (x.lo - 1))).l) (w64 (x.hi+1))
  refine ⟨v',f',e,?_⟩
  have:=some1 f (w64 (x.lo - 1))
  simp only [List.length_append,List.length_cons] at h ⊢
  omega
theorem out4_len:∀ (l:List Sn) (f:Int),(∃ v' f',ranges_outside_4 l f=.x0 v' f'∧v'.length≤l.length) ∨ ∃ f',ranges_outside_4 l f=.x1 f'
 | [],f=>.inr ⟨f,rfl⟩
 | x::l,f=>by
  unfold ranges_outside_4
  cases he:((zd f (w64 (x.lo - 1))).l).isEmpty with
  | true =>
   rcases out4_len l (w64 (x.hi+1)) with ⟨v',f',e,h⟩ | ⟨f',e⟩
   ·exact .inl ⟨v',f',e,by simp only [List.length_cons]; omega⟩
   ·exact .inr ⟨f',e⟩
  | false =>
   obtain ⟨v',f',e,h⟩:=out4a_len l ((zd f (w64 (x.lo - 1))).l) (w64 (x.hi+1))
   have:=some1 f (w64 (x.lo - 1))
   exact .inl ⟨v',f',e,by simp only [List.length_cons]; omega⟩
theorem outsideLen (r:GS Sn) (h:r.l.length≤64):(ranges_outside r).l.length≤65:=by
 unfold ranges_outside
 rcases out4_len r.l (-1099511627776) with ⟨v',f',e,h'⟩ | ⟨f',e⟩ <;> rw [e] <;> dsimp only
 ·have:=some1 f' 1099511627776
  cases ((zd f' 1099511627776).l).isEmpty <;> simp [GS.some] <;> omega
 ·have:=some1 f' 1099511627776
  cases ((zd f' 1099511627776).l).isEmpty <;> simp [GS.some,GS.nil] <;> omega
end Go.VS

namespace Go.VS
open Go Go.Proofs
set_option maxHeartbeats 0
set_option linter.unusedSimpArgs false
set_option linter.unusedVariables false
theorem outside_len (r:GS Sn) (h:r.l.length≤64):(ranges_outside r).l.length≤65:=outsideLen r h

end Go.VS

namespace Go.VS
open Go Go.Proofs
set_option maxHeartbeats 0
set_option linter.unusedSimpArgs false
set_option linter.unusedVariables false
theorem zadd_rw {x:Nat} (h:x≤9223372036854775807):I (w64 (0+((x:Nat):Int)))=I ((x:Nat):Int):=by
 congr 1; unfold w64; rw [IntKind.wrap_i64]; omega
end Go.VS

namespace Go.VS
open Go Go.Proofs
set_option maxHeartbeats 0
set_option linter.unusedSimpArgs false
set_option linter.unusedVariables false
def cutG {α:Type} (s:GS α) (lo hi:Nat):GS α:=GS.some ((s.l.take hi).drop lo)
theorem zV {α:Type} (s:GS α) (lo hi:Nat):(cutG s lo hi).l.length=min hi s.l.length - lo:=by
 unfold cutG; rw [GS.some_l,List.length_drop,List.length_take]
theorem cut_sub {α:Type} (s:GS α) (lo hi:Nat):∀ x∈(cutG s lo hi).l,x∈s.l:=fun x hx=>by
 unfold cutG at hx
 rw [GS.some_l] at hx
 exact List.mem_of_mem_take (List.mem_of_mem_drop hx)
section
variable {α:Type} {C:Cfg} {objs:List (Nat × Ob)} {t e:TypeId} {ty te:Ty} {f:α→VS.D} {sz nxt k:Nat} {s:GS α}
theorem slice_hi (h1:C.ty t=some ty) (h2:ty.kind=.slice e) (h3:C.ty e=some te) (h4:te.size=sz) (hk:k≤s.l.length) (hp:0 < s.l.length):evSlice C objs nxt t (GS.D f sz s) none (some (I ((k:Nat):Int))) none=some ⟨GS.D f sz (cutG s 0 k),[],[],nxt⟩:=by
 have hn:s.nl=false:=nonnil (fun h=>by rw [h] at hp; simp at hp)
 subst h4
 unfold GS.D
 rw [hn]
 simp [evSlice,optBound,boundD,I,sliceOf,h1,h2,h3,slSlice,zsl,cutG,GS.some,hk,capBehind,rdOf,List.map_take]
theorem slice_lo (h1:C.ty t=some ty) (h2:ty.kind=.slice e) (h3:C.ty e=some te) (h4:te.size=sz) (hk:k≤s.l.length) (hp:0 < s.l.length):evSlice C objs nxt t (GS.D f sz s) (some (I ((k:Nat):Int))) none none=some ⟨GS.D f sz (cutG s k s.l.length),[],[],nxt⟩:=by
 have hn:s.nl=false:=nonnil (fun h=>by rw [h] at hp; simp at hp)
 subst h4
 unfold GS.D
 rw [hn]
 simp [evSlice,optBound,boundD,I,sliceOf,h1,h2,h3,slSlice,zsl,cutG,GS.some,hk,capBehind,rdOf,List.map_drop]
 rw [List.take_of_length_le (by simp)]
end
theorem half_rw {x:Nat} (h:x≤9223372036854775807):I (w64 (((x:Nat):Int).tdiv 2))=I ((x / 2:Nat):Int):=by
 congr 1
 have e:((x:Nat):Int).tdiv 2=((x / 2:Nat):Int):=rfl
 rw [e,y7 (by omega) (by omega)]

noncomputable def lp75_8:Code:=subC [1,1,1,1,1,1,1,0,0,0] (bodyC Tryz.f75)

def sd20285 (yw:GS Sn) (yy:GS Sn) (yl:List Sn) (yp:Int) (yu:Int):St:=⟨107,[(101,.lref 0 ((w64 (((yl.length:Nat):Int) - 1)).toNat) 2 1),(100,.lref 0 ((w64 (((yl.length:Nat):Int) - 1)).toNat) 2 0),(99,I (zu ((yl.getD ((w64 (((yl.length:Nat):Int) - 1)).toNat) default).hi) ((GS.at yw yp).hi))),(98,I ((GS.at yw yp).hi)),(97,.lref 1 0 2 1),(96,I ((yl.getD ((w64 (((yl.length:Nat):Int) - 1)).toNat) default).hi)),(95,.lref 0 ((w64 (((yl.length:Nat):Int) - 1)).toNat) 2 1),(94,.lref 0 ((w64 (((yl.length:Nat):Int) - 1)).toNat) 2 0),(93,I (w64 (((yl.length:Nat):Int) - 1))),(92,I ((yl.length:Nat):Int)),(91,.lsl 0 0 yl.length 2 none),(90,I (w64 (((yl.length:Nat):Int) - 1))),(89,I ((yl.length:Nat):Int)),(88,.lsl 0 0 yl.length 2 none),(87,B true),(86,B true),(85,I (w64 (((yl.getD ((w64 (((yl.length:Nat):Int) - 1)).toNat) default).hi)+1))),(84,I ((yl.getD ((w64 (((yl.length:Nat):Int) - 1)).toNat) default).hi)),(83,.lref 0 ((w64 (((yl.length:Nat):Int) - 1)).toNat) 2 1),(82,.lref 0 ((w64 (((yl.length:Nat):Int) - 1)).toNat) 2 0),(81,I (w64 (((yl.length:Nat):Int) - 1))),(80,I ((yl.length:Nat):Int)),(79,.lsl 0 0 yl.length 2 none),(78,I ((GS.at yw yp).lo)),(77,.lref 1 0 2 0),(76,B true),(75,B true),(74,I ((yl.length:Nat):Int)),(9,I ((yl.length:Nat):Int)),(73,I ((yl.length:Nat):Int)),(72,.lsl 0 0 yl.length 2 none),(6,I (w64 (yp+1))),(65,I (w64 (yp+1))),(64,I yp),(63,.agg [I ((GS.at yw yp).lo),I ((GS.at yw yp).hi)]),(62,.ptr (.agg [I ((GS.at yw yp).lo),I ((GS.at yw yp).hi)])),(61,I yp),(60,.sl yw.nl (yw.l.map Sn.D) (zsl yw.nl 2) none),(59,B true),(58,.tup []),(57,.tup []),(56,.tup []),(55,.tup []),(54,.tup []),(53,.tup []),(52,.tup []),(51,.tup []),(50,.tup []),(49,.tup []),(48,.tup []),(47,.tup []),(46,.tup []),(45,.tup []),(44,.tup []),(43,.tup []),(42,.tup []),(41,B true),(40,B true),(39,I ((yy.l.length:Nat):Int)),(38,.sl yy.nl (yy.l.map Sn.D) (zsl yy.nl 2) none),(37,I yu),(8,.lref 1 0 2 0),(36,.agg [I 0,I 0]),(35,B true),(34,.tup []),(33,.tup []),(32,.tup []),(31,.tup []),(30,B true),(29,B true),(28,I ((yw.l.length:Nat):Int)),(27,.sl yw.nl (yw.l.map Sn.D) (zsl yw.nl 2) none),(26,I yp),(3,.sl yw.nl (yw.l.map Sn.D) (zsl yw.nl 2) none),(4,.sl yy.nl (yy.l.map Sn.D) (zsl yy.nl 2) none),(5,.lsl 0 0 yl.length 2 none),(6,I yp),(7,I yu)],[(0,⟨(yl.set ((w64 (((yl.length:Nat):Int) - 1)).toNat) (⟨(yl.getD ((w64 (((yl.length:Nat):Int) - 1)).toNat) default).lo,zu ((yl.getD ((w64 (((yl.length:Nat):Int) - 1)).toNat) default).hi) ((GS.at yw yp).hi)⟩:Sn)).map Sn.D,2,false⟩),(1,⟨[.agg [I ((GS.at yw yp).lo),I ((GS.at yw yp).hi)]],2,false⟩)],2,0⟩

def sd20286 (yw:GS Sn) (yy:GS Sn) (yl:List Sn) (yp:Int) (yu:Int):St:=⟨107,[(5,.lsl 3 0 ((yl++[(GS.at yw yp)]).length) 2 none),(105,.lsl 3 0 ((yl++[(GS.at yw yp)]).length) 2 none),(104,.lsl 2 0 1 2 (some 1)),(103,.agg [I ((GS.at yw yp).lo),I ((GS.at yw yp).hi)]),(102,.lsl 0 0 yl.length 2 none),(87,B false),(86,B false),(85,I (w64 (((yl.getD ((w64 (((yl.length:Nat):Int) - 1)).toNat) default).hi)+1))),(84,I ((yl.getD ((w64 (((yl.length:Nat):Int) - 1)).toNat) default).hi)),(83,.lref 0 ((w64 (((yl.length:Nat):Int) - 1)).toNat) 2 1),(82,.lref 0 ((w64 (((yl.length:Nat):Int) - 1)).toNat) 2 0),(81,I (w64 (((yl.length:Nat):Int) - 1))),(80,I ((yl.length:Nat):Int)),(79,.lsl 0 0 yl.length 2 none),(78,I ((GS.at yw yp).lo)),(77,.lref 1 0 2 0),(76,B true),(75,B true),(74,I ((yl.length:Nat):Int)),(9,I ((yl.length:Nat):Int)),(73,I ((yl.length:Nat):Int)),(72,.lsl 0 0 yl.length 2 none),(6,I (w64 (yp+1))),(65,I (w64 (yp+1))),(64,I yp),(63,.agg [I ((GS.at yw yp).lo),I ((GS.at yw yp).hi)]),(62,.ptr (.agg [I ((GS.at yw yp).lo),I ((GS.at yw yp).hi)])),(61,I yp),(60,.sl yw.nl (yw.l.map Sn.D) (zsl yw.nl 2) none),(59,B true),(58,.tup []),(57,.tup []),(56,.tup []),(55,.tup []),(54,.tup []),(53,.tup []),(52,.tup []),(51,.tup []),(50,.tup []),(49,.tup []),(48,.tup []),(47,.tup []),(46,.tup []),(45,.tup []),(44,.tup []),(43,.tup []),(42,.tup []),(41,B true),(40,B true),(39,I ((yy.l.length:Nat):Int)),(38,.sl yy.nl (yy.l.map Sn.D) (zsl yy.nl 2) none),(37,I yu),(8,.lref 1 0 2 0),(36,.agg [I 0,I 0]),(35,B true),(34,.tup []),(33,.tup []),(32,.tup []),(31,.tup []),(30,B true),(29,B true),(28,I ((yw.l.length:Nat):Int)),(27,.sl yw.nl (yw.l.map Sn.D) (zsl yw.nl 2) none),(26,I yp),(3,.sl yw.nl (yw.l.map Sn.D) (zsl yw.nl 2) none),(4,.sl yy.nl (yy.l.map Sn.D) (zsl yy.nl 2) none),(5,.lsl 0 0 yl.length 2 none),(6,I yp),(7,I yu)],[(1,⟨[.agg [I ((GS.at yw yp).lo),I ((GS.at yw yp).hi)]],2,false⟩),(2,⟨[.agg [I ((GS.at yw yp).lo),I ((GS.at yw yp).hi)]],2,false⟩),(3,⟨(yl++[(GS.at yw yp)]).map Sn.D,2,false⟩)],4,0⟩

def sd20287 (yw:GS Sn) (yy:GS Sn) (yl:List Sn) (yp:Int) (yu:Int):St:=⟨107,[(5,.lsl 3 0 ((yl++[(GS.at yw yp)]).length) 2 none),(105,.lsl 3 0 ((yl++[(GS.at yw yp)]).length) 2 none),(104,.lsl 2 0 1 2 (some 1)),(103,.agg [I ((GS.at yw yp).lo),I ((GS.at yw yp).hi)]),(102,.lsl 0 0 yl.length 2 none),(87,B false),(86,.tup []),(85,.tup []),(84,.tup []),(83,.tup []),(82,.tup []),(81,.tup []),(80,.tup []),(79,.tup []),(78,.tup []),(77,.tup []),(76,B false),(75,B false),(74,I ((yl.length:Nat):Int)),(9,I ((yl.length:Nat):Int)),(73,I ((yl.length:Nat):Int)),(72,.lsl 0 0 yl.length 2 none),(6,I (w64 (yp+1))),(65,I (w64 (yp+1))),(64,I yp),(63,.agg [I ((GS.at yw yp).lo),I ((GS.at yw yp).hi)]),(62,.ptr (.agg [I ((GS.at yw yp).lo),I ((GS.at yw yp).hi)])),(61,I yp),(60,.sl yw.nl (yw.l.map Sn.D) (zsl yw.nl 2) none),(59,B true),(58,.tup []),(57,.tup []),(56,.tup []),(55,.tup []),(54,.tup []),(53,.tup []),(52,.tup []),(51,.tup []),(50,.tup []),(49,.tup []),(48,.tup []),(47,.tup []),(46,.tup []),(45,.tup []),(44,.tup []),(43,.tup []),(42,.tup []),(41,B true),(40,B true),(39,I ((yy.l.length:Nat):Int)),(38,.sl yy.nl (yy.l.map Sn.D) (zsl yy.nl 2) none),(37,I yu),(8,.lref 1 0 2 0),(36,.agg [I 0,I 0]),(35,B true),(34,.tup []),(33,.tup []),(32,.tup []),(31,.tup []),(30,B true),(29,B true),(28,I ((yw.l.length:Nat):Int)),(27,.sl yw.nl (yw.l.map Sn.D) (zsl yw.nl 2) none),(26,I yp),(3,.sl yw.nl (yw.l.map Sn.D) (zsl yw.nl 2) none),(4,.sl yy.nl (yy.l.map Sn.D) (zsl yy.nl 2) none),(5,.lsl 0 0 yl.length 2 none),(6,I yp),(7,I yu)],[(1,⟨[.agg [I ((GS.at yw yp).lo),I ((GS.at yw yp).hi)]],2,false⟩),(2,⟨[.agg [I ((GS.at yw yp).lo),I ((GS.at yw yp).hi)]],2,false⟩),(3,⟨(yl++[(GS.at yw yp)]).map Sn.D,2,false⟩)],4,0⟩

def sd20288 (yw:GS Sn) (yy:GS Sn) (yl:List Sn) (yp:Int) (yu:Int):St:=⟨107,[(101,.lref 0 ((w64 (((yl.length:Nat):Int) - 1)).toNat) 2 1),(100,.lref 0 ((w64 (((yl.length:Nat):Int) - 1)).toNat) 2 0),(99,I (zu ((yl.getD ((w64 (((yl.length:Nat):Int) - 1)).toNat) default).hi) ((GS.at yw yp).hi))),(98,I ((GS.at yw yp).hi)),(97,.lref 1 0 2 1),(96,I ((yl.getD ((w64 (((yl.length:Nat):Int) - 1)).toNat) default).hi)),(95,.lref 0 ((w64 (((yl.length:Nat):Int) - 1)).toNat) 2 1),(94,.lref 0 ((w64 (((yl.length:Nat):Int) - 1)).toNat) 2 0),(93,I (w64 (((yl.length:Nat):Int) - 1))),(92,I ((yl.length:Nat):Int)),(91,.lsl 0 0 yl.length 2 none),(90,I (w64 (((yl.length:Nat):Int) - 1))),(89,I ((yl.length:Nat):Int)),(88,.lsl 0 0 yl.length 2 none),(87,B true),(86,B true),(85,I (w64 (((yl.getD ((w64 (((yl.length:Nat):Int) - 1)).toNat) default).hi)+1))),(84,I ((yl.getD ((w64 (((yl.length:Nat):Int) - 1)).toNat) default).hi)),(83,.lref 0 ((w64 (((yl.length:Nat):Int) - 1)).toNat) 2 1),(82,.lref 0 ((w64 (((yl.length:Nat):Int) - 1)).toNat) 2 0),(81,I (w64 (((yl.length:Nat):Int) - 1))),(80,I ((yl.length:Nat):Int)),(79,.lsl 0 0 yl.length 2 none),(78,I ((GS.at yw yp).lo)),(77,.lref 1 0 2 0),(76,B true),(75,B true),(74,I ((yl.length:Nat):Int)),(9,I ((yl.length:Nat):Int)),(73,I ((yl.length:Nat):Int)),(72,.lsl 0 0 yl.length 2 none),(6,I (w64 (yp+1))),(65,I (w64 (yp+1))),(64,I yp),(63,.agg [I ((GS.at yw yp).lo),I ((GS.at yw yp).hi)]),(62,.ptr (.agg [I ((GS.at yw yp).lo),I ((GS.at yw yp).hi)])),(61,I yp),(60,.sl yw.nl (yw.l.map Sn.D) (zsl yw.nl 2) none),(59,B true),(58,B true),(57,B true),(56,I ((GS.at yy yu).lo)),(55,.ptr (I ((GS.at yy yu).lo))),(54,.ptr (.agg [I ((GS.at yy yu).lo),I ((GS.at yy yu).hi)])),(53,I yu),(52,.sl yy.nl (yy.l.map Sn.D) (zsl yy.nl 2) none),(51,I ((GS.at yw yp).lo)),(50,.ptr (I ((GS.at yw yp).lo))),(49,.ptr (.agg [I ((GS.at yw yp).lo),I ((GS.at yw yp).hi)])),(48,I yp),(47,.sl yw.nl (yw.l.map Sn.D) (zsl yw.nl 2) none),(46,B true),(45,B true),(44,I ((yw.l.length:Nat):Int)),(43,.sl yw.nl (yw.l.map Sn.D) (zsl yw.nl 2) none),(42,I yp),(41,B false),(40,B false),(39,I ((yy.l.length:Nat):Int)),(38,.sl yy.nl (yy.l.map Sn.D) (zsl yy.nl 2) none),(37,I yu),(8,.lref 1 0 2 0),(36,.agg [I 0,I 0]),(35,B true),(34,.tup []),(33,.tup []),(32,.tup []),(31,.tup []),(30,B true),(29,B true),(28,I ((yw.l.length:Nat):Int)),(27,.sl yw.nl (yw.l.map Sn.D) (zsl yw.nl 2) none),(26,I yp),(3,.sl yw.nl (yw.l.map Sn.D) (zsl yw.nl 2) none),(4,.sl yy.nl (yy.l.map Sn.D) (zsl yy.nl 2) none),(5,.lsl 0 0 yl.length 2 none),(6,I yp),(7,I yu)],[(0,⟨(yl.set ((w64 (((yl.length:Nat):Int) - 1)).toNat) (⟨(yl.getD ((w64 (((yl.length:Nat):Int) - 1)).toNat) default).lo,zu ((yl.getD ((w64 (((yl.length:Nat):Int) - 1)).toNat) default).hi) ((GS.at yw yp).hi)⟩:Sn)).map Sn.D,2,false⟩),(1,⟨[.agg [I ((GS.at yw yp).lo),I ((GS.at yw yp).hi)]],2,false⟩)],2,0⟩

def sd20289 (yw:GS Sn) (yy:GS Sn) (yl:List Sn) (yp:Int) (yu:Int):St:=⟨107,[(5,.lsl 3 0 ((yl++[(GS.at yw yp)]).length) 2 none),(105,.lsl 3 0 ((yl++[(GS.at yw yp)]).length) 2 none),(104,.lsl 2 0 1 2 (some 1)),(103,.agg [I ((GS.at yw yp).lo),I ((GS.at yw yp).hi)]),(102,.lsl 0 0 yl.length 2 none),(87,B false),(86,B false),(85,I (w64 (((yl.getD ((w64 (((yl.length:Nat):Int) - 1)).toNat) default).hi)+1))),(84,I ((yl.getD ((w64 (((yl.length:Nat):Int) - 1)).toNat) default).hi)),(83,.lref 0 ((w64 (((yl.length:Nat):Int) - 1)).toNat) 2 1),(82,.lref 0 ((w64 (((yl.length:Nat):Int) - 1)).toNat) 2 0),(81,I (w64 (((yl.length:Nat):Int) - 1))),(80,I ((yl.length:Nat):Int)),(79,.lsl 0 0 yl.length 2 none),(78,I ((GS.at yw yp).lo)),(77,.lref 1 0 2 0),(76,B true),(75,B true),(74,I ((yl.length:Nat):Int)),(9,I ((yl.length:Nat):Int)),(73,I ((yl.length:Nat):Int)),(72,.lsl 0 0 yl.length 2 none),(6,I (w64 (yp+1))),(65,I (w64 (yp+1))),(64,I yp),(63,.agg [I ((GS.at yw yp).lo),I ((GS.at yw yp).hi)]),(62,.ptr (.agg [I ((GS.at yw yp).lo),I ((GS.at yw yp).hi)])),(61,I yp),(60,.sl yw.nl (yw.l.map Sn.D) (zsl yw.nl 2) none),(59,B true),(58,B true),(57,B true),(56,I ((GS.at yy yu).lo)),(55,.ptr (I ((GS.at yy yu).lo))),(54,.ptr (.agg [I ((GS.at yy yu).lo),I ((GS.at yy yu).hi)])),(53,I yu),(52,.sl yy.nl (yy.l.map Sn.D) (zsl yy.nl 2) none),(51,I ((GS.at yw yp).lo)),(50,.ptr (I ((GS.at yw yp).lo))),(49,.ptr (.agg [I ((GS.at yw yp).lo),I ((GS.at yw yp).hi)])),(48,I yp),(47,.sl yw.nl (yw.l.map Sn.D) (zsl yw.nl 2) none),(46,B true),(45,B true),(44,I ((yw.l.length:Nat):Int)),(43,.sl yw.nl (yw.l.map Sn.D) (zsl yw.nl 2) none),(42,I yp),(41,B false),(40,B false),(39,I ((yy.l.length:Nat):Int)),(38,.sl yy.nl (yy.l.map Sn.D) (zsl yy.nl 2) none),(37,I yu),(8,.lref 1 0 2 0),(36,.agg [I 0,I 0]),(35,B true),(34,.tup []),(33,.tup []),(32,.tup []),(31,.tup []),(30,B true),(29,B true),(28,I ((yw.l.length:Nat):Int)),(27,.sl yw.nl (yw.l.map Sn.D) (zsl yw.nl 2) none),(26,I yp),(3,.sl yw.nl (yw.l.map Sn.D) (zsl yw.nl 2) none),(4,.sl yy.nl (yy.l.map Sn.D) (zsl yy.nl 2) none),(5,.lsl 0 0 yl.length 2 none),(6,I yp),(7,I yu)],[(1,⟨[.agg [I ((GS.at yw yp).lo),I ((GS.at yw yp).hi)]],2,false⟩),(2,⟨[.agg [I ((GS.at yw yp).lo),I ((GS.at yw yp).hi)]],2,false⟩),(3,⟨(yl++[(GS.at yw yp)]).map Sn.D,2,false⟩)],4,0⟩

def sd20290 (yw:GS Sn) (yy:GS Sn) (yl:List Sn) (yp:Int) (yu:Int):St:=⟨107,[(5,.lsl 3 0 ((yl++[(GS.at yw yp)]).length) 2 none),(105,.lsl 3 0 ((yl++[(GS.at yw yp)]).length) 2 none),(104,.lsl 2 0 1 2 (some 1)),(103,.agg [I ((GS.at yw yp).lo),I ((GS.at yw yp).hi)]),(102,.lsl 0 0 yl.length 2 none),(87,B false),(86,.tup []),(85,.tup []),(84,.tup []),(83,.tup []),(82,.tup []),(81,.tup []),(80,.tup []),(79,.tup []),(78,.tup []),(77,.tup []),(76,B false),(75,B false),(74,I ((yl.length:Nat):Int)),(9,I ((yl.length:Nat):Int)),(73,I ((yl.length:Nat):Int)),(72,.lsl 0 0 yl.length 2 none),(6,I (w64 (yp+1))),(65,I (w64 (yp+1))),(64,I yp),(63,.agg [I ((GS.at yw yp).lo),I ((GS.at yw yp).hi)]),(62,.ptr (.agg [I ((GS.at yw yp).lo),I ((GS.at yw yp).hi)])),(61,I yp),(60,.sl yw.nl (yw.l.map Sn.D) (zsl yw.nl 2) none),(59,B true),(58,B true),(57,B true),(56,I ((GS.at yy yu).lo)),(55,.ptr (I ((GS.at yy yu).lo))),(54,.ptr (.agg [I ((GS.at yy yu).lo),I ((GS.at yy yu).hi)])),(53,I yu),(52,.sl yy.nl (yy.l.map Sn.D) (zsl yy.nl 2) none),(51,I ((GS.at yw yp).lo)),(50,.ptr (I ((GS.at yw yp).lo))),(49,.ptr (.agg [I ((GS.at yw yp).lo),I ((GS.at yw yp).hi)])),(48,I yp),(47,.sl yw.nl (yw.l.map Sn.D) (zsl yw.nl 2) none),(46,B true),(45,B true),(44,I ((yw.l.length:Nat):Int)),(43,.sl yw.nl (yw.l.map Sn.D) (zsl yw.nl 2) none),(42,I yp),(41,B false),(40,B false),(39,I ((yy.l.length:Nat):Int)),(38,.sl yy.nl (yy.l.map Sn.D) (zsl yy.nl 2) none),(37,I yu),(8,.lref 1 0 2 0),(36,.agg [I 0,I 0]),(35,B true),(34,.tup []),(33,.tup []),(32,.tup []),(31,.tup []),(30,B true),(29,B true),(28,I ((yw.l.length:Nat):Int)),(27,.sl yw.nl (yw.l.map Sn.D) (zsl yw.nl 2) none),(26,I yp),(3,.sl yw.nl (yw.l.map Sn.D) (zsl yw.nl 2) none),(4,.sl yy.nl (yy.l.map Sn.D) (zsl yy.nl 2) none),(5,.lsl 0 0 yl.length 2 none),(6,I yp),(7,I yu)],[(1,⟨[.agg [I ((GS.at yw yp).lo),I ((GS.at yw yp).hi)]],2,false⟩),(2,⟨[.agg [I ((GS.at yw yp).lo),I ((GS.at yw yp).hi)]],2,false⟩),(3,⟨(yl++[(GS.at yw yp)]).map Sn.D,2,false⟩)],4,0⟩

def sd20291 (yw:GS Sn) (yy:GS Sn) (yl:List Sn) (yp:Int) (yu:Int):St:=⟨107,[(101,.lref 0 ((w64 (((yl.length:Nat):Int) - 1)).toNat) 2 1),(100,.lref 0 ((w64 (((yl.length:Nat):Int) - 1)).toNat) 2 0),(99,I (zu ((yl.getD ((w64 (((yl.length:Nat):Int) - 1)).toNat) default).hi) ((GS.at yy yu).hi))),(98,I ((GS.at yy yu).hi)),(97,.lref 1 0 2 1),(96,I ((yl.getD ((w64 (((yl.length:Nat):Int) - 1)).toNat) default).hi)),(95,.lref 0 ((w64 (((yl.length:Nat):Int) - 1)).toNat) 2 1),(94,.lref 0 ((w64 (((yl.length:Nat):Int) - 1)).toNat) 2 0),(93,I (w64 (((yl.length:Nat):Int) - 1))),(92,I ((yl.length:Nat):Int)),(91,.lsl 0 0 yl.length 2 none),(90,I (w64 (((yl.length:Nat):Int) - 1))),(89,I ((yl.length:Nat):Int)),(88,.lsl 0 0 yl.length 2 none),(87,B true),(86,B true),(85,I (w64 (((yl.getD ((w64 (((yl.length:Nat):Int) - 1)).toNat) default).hi)+1))),(84,I ((yl.getD ((w64 (((yl.length:Nat):Int) - 1)).toNat) default).hi)),(83,.lref 0 ((w64 (((yl.length:Nat):Int) - 1)).toNat) 2 1),(82,.lref 0 ((w64 (((yl.length:Nat):Int) - 1)).toNat) 2 0),(81,I (w64 (((yl.length:Nat):Int) - 1))),(80,I ((yl.length:Nat):Int)),(79,.lsl 0 0 yl.length 2 none),(78,I ((GS.at yy yu).lo)),(77,.lref 1 0 2 0),(76,B true),(75,B true),(74,I ((yl.length:Nat):Int)),(9,I ((yl.length:Nat):Int)),(73,I ((yl.length:Nat):Int)),(72,.lsl 0 0 yl.length 2 none),(7,I (w64 (yu+1))),(71,I (w64 (yu+1))),(70,I yu),(69,.agg [I ((GS.at yy yu).lo),I ((GS.at yy yu).hi)]),(68,.ptr (.agg [I ((GS.at yy yu).lo),I ((GS.at yy yu).hi)])),(67,I yu),(66,.sl yy.nl (yy.l.map Sn.D) (zsl yy.nl 2) none),(59,B false),(58,B false),(57,B false),(56,I ((GS.at yy yu).lo)),(55,.ptr (I ((GS.at yy yu).lo))),(54,.ptr (.agg [I ((GS.at yy yu).lo),I ((GS.at yy yu).hi)])),(53,I yu),(52,.sl yy.nl (yy.l.map Sn.D) (zsl yy.nl 2) none),(51,I ((GS.at yw yp).lo)),(50,.ptr (I ((GS.at yw yp).lo))),(49,.ptr (.agg [I ((GS.at yw yp).lo),I ((GS.at yw yp).hi)])),(48,I yp),(47,.sl yw.nl (yw.l.map Sn.D) (zsl yw.nl 2) none),(46,B true),(45,B true),(44,I ((yw.l.length:Nat):Int)),(43,.sl yw.nl (yw.l.map Sn.D) (zsl yw.nl 2) none),(42,I yp),(41,B false),(40,B false),(39,I ((yy.l.length:Nat):Int)),(38,.sl yy.nl (yy.l.map Sn.D) (zsl yy.nl 2) none),(37,I yu),(8,.lref 1 0 2 0),(36,.agg [I 0,I 0]),(35,B true),(34,.tup []),(33,.tup []),(32,.tup []),(31,.tup []),(30,B true),(29,B true),(28,I ((yw.l.length:Nat):Int)),(27,.sl yw.nl (yw.l.map Sn.D) (zsl yw.nl 2) none),(26,I yp),(3,.sl yw.nl (yw.l.map Sn.D) (zsl yw.nl 2) none),(4,.sl yy.nl (yy.l.map Sn.D) (zsl yy.nl 2) none),(5,.lsl 0 0 yl.length 2 none),(6,I yp),(7,I yu)],[(0,⟨(yl.set ((w64 (((yl.length:Nat):Int) - 1)).toNat) (⟨(yl.getD ((w64 (((yl.length:Nat):Int) - 1)).toNat) default).lo,zu ((yl.getD ((w64 (((yl.length:Nat):Int) - 1)).toNat) default).hi) ((GS.at yy yu).hi)⟩:Sn)).map Sn.D,2,false⟩),(1,⟨[.agg [I ((GS.at yy yu).lo),I ((GS.at yy yu).hi)]],2,false⟩)],2,0⟩

def sd20292 (yw:GS Sn) (yy:GS Sn) (yl:List Sn) (yp:Int) (yu:Int):St:=⟨107,[(5,.lsl 3 0 ((yl++[(GS.at yy yu)]).length) 2 none),(105,.lsl 3 0 ((yl++[(GS.at yy yu)]).length) 2 none),(104,.lsl 2 0 1 2 (some 1)),(103,.agg [I ((GS.at yy yu).lo),I ((GS.at yy yu).hi)]),(102,.lsl 0 0 yl.length 2 none),(87,B false),(86,B false),(85,I (w64 (((yl.getD ((w64 (((yl.length:Nat):Int) - 1)).toNat) default).hi)+1))),(84,I ((yl.getD ((w64 (((yl.length:Nat):Int) - 1)).toNat) default).hi)),(83,.lref 0 ((w64 (((yl.length:Nat):Int) - 1)).toNat) 2 1),(82,.lref 0 ((w64 (((yl.length:Nat):Int) - 1)).toNat) 2 0),(81,I (w64 (((yl.length:Nat):Int) - 1))),(80,I ((yl.length:Nat):Int)),(79,.lsl 0 0 yl.length 2 none),(78,I ((GS.at yy yu).lo)),(77,.lref 1 0 2 0),(76,B true),(75,B true),(74,I ((yl.length:Nat):Int)),(9,I ((yl.length:Nat):Int)),(73,I ((yl.length:Nat):Int)),(72,.lsl 0 0 yl.length 2 none),(7,I (w64 (yu+1))),(71,I (w64 (yu+1))),(70,I yu),(69,.agg [I ((GS.at yy yu).lo),I ((GS.at yy yu).hi)]),(68,.ptr (.agg [I ((GS.at yy yu).lo),I ((GS.at yy yu).hi)])),(67,I yu),(66,.sl yy.nl (yy.l.map Sn.D) (zsl yy.nl 2) none),(59,B false),(58,B false),(57,B false),(56,I ((GS.at yy yu).lo)),(55,.ptr (I ((GS.at yy yu).lo))),(54,.ptr (.agg [I ((GS.at yy yu).lo),I ((GS.at yy yu).hi)])),(53,I yu),(52,.sl yy.nl (yy.l.map Sn.D) (zsl yy.nl 2) none),(51,I ((GS.at yw yp).lo)),(50,.ptr (I ((GS.at yw yp).lo))),(49,.ptr (.agg [I ((GS.at yw yp).lo),I ((GS.at yw yp).hi)])),(48,I yp),(47,.sl yw.nl (yw.l.map Sn.D) (zsl yw.nl 2) none),(46,B true),(45,B true),(44,I ((yw.l.length:Nat):Int)),(43,.sl yw.nl (yw.l.map Sn.D) (zsl yw.nl 2) none),(42,I yp),(41,B false),(40,B false),(39,I ((yy.l.length:Nat):Int)),(38,.sl yy.nl (yy.l.map Sn.D) (zsl yy.nl 2) none),(37,I yu),(8,.lref 1 0 2 0),(36,.agg [I 0,I 0]),(35,B true),(34,.tup []),(33,.tup []),(32,.tup []),(31,.tup []),(30,B true),(29,B true),(28,I ((yw.l.length:Nat):Int)),(27,.sl yw.nl (yw.l.map Sn.D) (zsl yw.nl 2) none),(26,I yp),(3,.sl yw.nl (yw.l.map Sn.D) (zsl yw.nl 2) none),(4,.sl yy.nl (yy.l.map Sn.D) (zsl yy.nl 2) none),(5,.lsl 0 0 yl.length 2 none),(6,I yp),(7,I yu)],[(1,⟨[.agg [I ((GS.at yy yu).lo),I ((GS.at yy yu).hi)]],2,false⟩),(2,⟨[.agg [I ((GS.at yy yu).lo),I ((GS.at yy yu).hi)]],2,false⟩),(3,⟨(yl++[(GS.at yy yu)]).map Sn.D,2,false⟩)],4,0⟩

def sd20293 (yw:GS Sn) (yy:GS Sn) (yl:List Sn) (yp:Int) (yu:Int):St:=⟨107,[(5,.lsl 3 0 ((yl++[(GS.at yy yu)]).length) 2 none),(105,.lsl 3 0 ((yl++[(GS.at yy yu)]).length) 2 none),(104,.lsl 2 0 1 2 (some 1)),(103,.agg [I ((GS.at yy yu).lo),I ((GS.at yy yu).hi)]),(102,.lsl 0 0 yl.length 2 none),(87,B false),(86,.tup []),(85,.tup []),(84,.tup []),(83,.tup []),(82,.tup []),(81,.tup []),(80,.tup []),(79,.tup []),(78,.tup []),(77,.tup []),(76,B false),(75,B false),(74,I ((yl.length:Nat):Int)),(9,I ((yl.length:Nat):Int)),(73,I ((yl.length:Nat):Int)),(72,.lsl 0 0 yl.length 2 none),(7,I (w64 (yu+1))),(71,I (w64 (yu+1))),(70,I yu),(69,.agg [I ((GS.at yy yu).lo),I ((GS.at yy yu).hi)]),(68,.ptr (.agg [I ((GS.at yy yu).lo),I ((GS.at yy yu).hi)])),(67,I yu),(66,.sl yy.nl (yy.l.map Sn.D) (zsl yy.nl 2) none),(59,B false),(58,B false),(57,B false),(56,I ((GS.at yy yu).lo)),(55,.ptr (I ((GS.at yy yu).lo))),(54,.ptr (.agg [I ((GS.at yy yu).lo),I ((GS.at yy yu).hi)])),(53,I yu),(52,.sl yy.nl (yy.l.map Sn.D) (zsl yy.nl 2) none),(51,I ((GS.at yw yp).lo)),(50,.ptr (I ((GS.at yw yp).lo))),(49,.ptr (.agg [I ((GS.at yw yp).lo),I ((GS.at yw yp).hi)])),(48,I yp),(47,.sl yw.nl (yw.l.map Sn.D) (zsl yw.nl 2) none),(46,B true),(45,B true),(44,I ((yw.l.length:Nat):Int)),(43,.sl yw.nl (yw.l.map Sn.D) (zsl yw.nl 2) none),(42,I yp),(41,B false),(40,B false),(39,I ((yy.l.length:Nat):Int)),(38,.sl yy.nl (yy.l.map Sn.D) (zsl yy.nl 2) none),(37,I yu),(8,.lref 1 0 2 0),(36,.agg [I 0,I 0]),(35,B true),(34,.tup []),(33,.tup []),(32,.tup []),(31,.tup []),(30,B true),(29,B true),(28,I ((yw.l.length:Nat):Int)),(27,.sl yw.nl (yw.l.map Sn.D) (zsl yw.nl 2) none),(26,I yp),(3,.sl yw.nl (yw.l.map Sn.D) (zsl yw.nl 2) none),(4,.sl yy.nl (yy.l.map Sn.D) (zsl yy.nl 2) none),(5,.lsl 0 0 yl.length 2 none),(6,I yp),(7,I yu)],[(1,⟨[.agg [I ((GS.at yy yu).lo),I ((GS.at yy yu).hi)]],2,false⟩),(2,⟨[.agg [I ((GS.at yy yu).lo),I ((GS.at yy yu).hi)]],2,false⟩),(3,⟨(yl++[(GS.at yy yu)]).map Sn.D,2,false⟩)],4,0⟩

def sd20294 (yw:GS Sn) (yy:GS Sn) (yl:List Sn) (yp:Int) (yu:Int):St:=⟨107,[(101,.lref 0 ((w64 (((yl.length:Nat):Int) - 1)).toNat) 2 1),(100,.lref 0 ((w64 (((yl.length:Nat):Int) - 1)).toNat) 2 0),(99,I (zu ((yl.getD ((w64 (((yl.length:Nat):Int) - 1)).toNat) default).hi) ((GS.at yw yp).hi))),(98,I ((GS.at yw yp).hi)),(97,.lref 1 0 2 1),(96,I ((yl.getD ((w64 (((yl.length:Nat):Int) - 1)).toNat) default).hi)),(95,.lref 0 ((w64 (((yl.length:Nat):Int) - 1)).toNat) 2 1),(94,.lref 0 ((w64 (((yl.length:Nat):Int) - 1)).toNat) 2 0),(93,I (w64 (((yl.length:Nat):Int) - 1))),(92,I ((yl.length:Nat):Int)),(91,.lsl 0 0 yl.length 2 none),(90,I (w64 (((yl.length:Nat):Int) - 1))),(89,I ((yl.length:Nat):Int)),(88,.lsl 0 0 yl.length 2 none),(87,B true),(86,B true),(85,I (w64 (((yl.getD ((w64 (((yl.length:Nat):Int) - 1)).toNat) default).hi)+1))),(84,I ((yl.getD ((w64 (((yl.length:Nat):Int) - 1)).toNat) default).hi)),(83,.lref 0 ((w64 (((yl.length:Nat):Int) - 1)).toNat) 2 1),(82,.lref 0 ((w64 (((yl.length:Nat):Int) - 1)).toNat) 2 0),(81,I (w64 (((yl.length:Nat):Int) - 1))),(80,I ((yl.length:Nat):Int)),(79,.lsl 0 0 yl.length 2 none),(78,I ((GS.at yw yp).lo)),(77,.lref 1 0 2 0),(76,B true),(75,B true),(74,I ((yl.length:Nat):Int)),(9,I ((yl.length:Nat):Int)),(73,I ((yl.length:Nat):Int)),(72,.lsl 0 0 yl.length 2 none),(6,I (w64 (yp+1))),(65,I (w64 (yp+1))),(64,I yp),(63,.agg [I ((GS.at yw yp).lo),I ((GS.at yw yp).hi)]),(62,.ptr (.agg [I ((GS.at yw yp).lo),I ((GS.at yw yp).hi)])),(61,I yp),(60,.sl yw.nl (yw.l.map Sn.D) (zsl yw.nl 2) none),(59,B true),(58,.tup []),(57,.tup []),(56,.tup []),(55,.tup []),(54,.tup []),(53,.tup []),(52,.tup []),(51,.tup []),(50,.tup []),(49,.tup []),(48,.tup []),(47,.tup []),(46,.tup []),(45,.tup []),(44,.tup []),(43,.tup []),(42,.tup []),(41,B true),(40,B true),(39,I ((yy.l.length:Nat):Int)),(38,.sl yy.nl (yy.l.map Sn.D) (zsl yy.nl 2) none),(37,I yu),(8,.lref 1 0 2 0),(36,.agg [I 0,I 0]),(35,B true),(34,B true),(33,I ((yy.l.length:Nat):Int)),(32,.sl yy.nl (yy.l.map Sn.D) (zsl yy.nl 2) none),(31,I yu),(30,B false),(29,B false),(28,I ((yw.l.length:Nat):Int)),(27,.sl yw.nl (yw.l.map Sn.D) (zsl yw.nl 2) none),(26,I yp),(3,.sl yw.nl (yw.l.map Sn.D) (zsl yw.nl 2) none),(4,.sl yy.nl (yy.l.map Sn.D) (zsl yy.nl 2) none),(5,.lsl 0 0 yl.length 2 none),(6,I yp),(7,I yu)],[(0,⟨(yl.set ((w64 (((yl.length:Nat):Int) - 1)).toNat) (⟨(yl.getD ((w64 (((yl.length:Nat):Int) - 1)).toNat) default).lo,zu ((yl.getD ((w64 (((yl.length:Nat):Int) - 1)).toNat) default).hi) ((GS.at yw yp).hi)⟩:Sn)).map Sn.D,2,false⟩),(1,⟨[.agg [I ((GS.at yw yp).lo),I ((GS.at yw yp).hi)]],2,false⟩)],2,0⟩

def sd20295 (yw:GS Sn) (yy:GS Sn) (yl:List Sn) (yp:Int) (yu:Int):St:=⟨107,[(5,.lsl 3 0 ((yl++[(GS.at yw yp)]).length) 2 none),(105,.lsl 3 0 ((yl++[(GS.at yw yp)]).length) 2 none),(104,.lsl 2 0 1 2 (some 1)),(103,.agg [I ((GS.at yw yp).lo),I ((GS.at yw yp).hi)]),(102,.lsl 0 0 yl.length 2 none),(87,B false),(86,B false),(85,I (w64 (((yl.getD ((w64 (((yl.length:Nat):Int) - 1)).toNat) default).hi)+1))),(84,I ((yl.getD ((w64 (((yl.length:Nat):Int) - 1)).toNat) default).hi)),(83,.lref 0 ((w64 (((yl.length:Nat):Int) - 1)).toNat) 2 1),(82,.lref 0 ((w64 (((yl.length:Nat):Int) - 1)).toNat) 2 0),(81,I (w64 (((yl.length:Nat):Int) - 1))),(80,I ((yl.length:Nat):Int)),(79,.lsl 0 0 yl.length 2 none),(78,I ((GS.at yw yp).lo)),(77,.lref 1 0 2 0),(76,B true),(75,B true),(74,I ((yl.length:Nat):Int)),(9,I ((yl.length:Nat):Int)),(73,I ((yl.length:Nat):Int)),(72,.lsl 0 0 yl.length 2 none),(6,I (w64 (yp+1))),(65,I (w64 (yp+1))),(64,I yp),(63,.agg [I ((GS.at yw yp).lo),I ((GS.at yw yp).hi)]),(62,.ptr (.agg [I ((GS.at yw yp).lo),I ((GS.at yw yp).hi)])),(61,I yp),(60,.sl yw.nl (yw.l.map Sn.D) (zsl yw.nl 2) none),(59,B true),(58,.tup []),(57,.tup []),(56,.tup []),(55,.tup []),(54,.tup []),(53,.tup []),(52,.tup []),(51,.tup []),(50,.tup []),(49,.tup []),(48,.tup []),(47,.tup []),(46,.tup []),(45,.tup []),(44,.tup []),(43,.tup []),(42,.tup []),(41,B true),(40,B true),(39,I ((yy.l.length:Nat):Int)),(38,.sl yy.nl (yy.l.map Sn.D) (zsl yy.nl 2) none),(37,I yu),(8,.lref 1 0 2 0),(36,.agg [I 0,I 0]),(35,B true),(34,B true),(33,I ((yy.l.length:Nat):Int)),(32,.sl yy.nl (yy.l.map Sn.D) (zsl yy.nl 2) none),(31,I yu),(30,B false),(29,B false),(28,I ((yw.l.length:Nat):Int)),(27,.sl yw.nl (yw.l.map Sn.D) (zsl yw.nl 2) none),(26,I yp),(3,.sl yw.nl (yw.l.map Sn.D) (zsl yw.nl 2) none),(4,.sl yy.nl (yy.l.map Sn.D) (zsl yy.nl 2) none),(5,.lsl 0 0 yl.length 2 none),(6,I yp),(7,I yu)],[(1,⟨[.agg [I ((GS.at yw yp).lo),I ((GS.at yw yp).hi)]],2,false⟩),(2,⟨[.agg [I ((GS.at yw yp).lo),I ((GS.at yw yp).hi)]],2,false⟩),(3,⟨(yl++[(GS.at yw yp)]).map Sn.D,2,false⟩)],4,0⟩

def sd20296 (yw:GS Sn) (yy:GS Sn) (yl:List Sn) (yp:Int) (yu:Int):St:=⟨107,[(5,.lsl 3 0 ((yl++[(GS.at yw yp)]).length) 2 none),(105,.lsl 3 0 ((yl++[(GS.at yw yp)]).length) 2 none),(104,.lsl 2 0 1 2 (some 1)),(103,.agg [I ((GS.at yw yp).lo),I ((GS.at yw yp).hi)]),(102,.lsl 0 0 yl.length 2 none),(87,B false),(86,.tup []),(85,.tup []),(84,.tup []),(83,.tup []),(82,.tup []),(81,.tup []),(80,.tup []),(79,.tup []),(78,.tup []),(77,.tup []),(76,B false),(75,B false),(74,I ((yl.length:Nat):Int)),(9,I ((yl.length:Nat):Int)),(73,I ((yl.length:Nat):Int)),(72,.lsl 0 0 yl.length 2 none),(6,I (w64 (yp+1))),(65,I (w64 (yp+1))),(64,I yp),(63,.agg [I ((GS.at yw yp).lo),I ((GS.at yw yp).hi)]),(62,.ptr (.agg [I ((GS.at yw yp).lo),I ((GS.at yw yp).hi)])),(61,I yp),(60,.sl yw.nl (yw.l.map Sn.D) (zsl yw.nl 2) none),(59,B true),(58,.tup []),(57,.tup []),(56,.tup []),(55,.tup []),(54,.tup []),(53,.tup []),(52,.tup []),(51,.tup []),(50,.tup []),(49,.tup []),(48,.tup []),(47,.tup []),(46,.tup []),(45,.tup []),(44,.tup []),(43,.tup []),(42,.tup []),(41,B true),(40,B true),(39,I ((yy.l.length:Nat):Int)),(38,.sl yy.nl (yy.l.map Sn.D) (zsl yy.nl 2) none),(37,I yu),(8,.lref 1 0 2 0),(36,.agg [I 0,I 0]),(35,B true),(34,B true),(33,I ((yy.l.length:Nat):Int)),(32,.sl yy.nl (yy.l.map Sn.D) (zsl yy.nl 2) none),(31,I yu),(30,B false),(29,B false),(28,I ((yw.l.length:Nat):Int)),(27,.sl yw.nl (yw.l.map Sn.D) (zsl yw.nl 2) none),(26,I yp),(3,.sl yw.nl (yw.l.map Sn.D) (zsl yw.nl 2) none),(4,.sl yy.nl (yy.l.map Sn.D) (zsl yy.nl 2) none),(5,.lsl 0 0 yl.length 2 none),(6,I yp),(7,I yu)],[(1,⟨[.agg [I ((GS.at yw yp).lo),I ((GS.at yw yp).hi)]],2,false⟩),(2,⟨[.agg [I ((GS.at yw yp).lo),I ((GS.at yw yp).hi)]],2,false⟩),(3,⟨(yl++[(GS.at yw yp)]).map Sn.D,2,false⟩)],4,0⟩

def sd20297 (yw:GS Sn) (yy:GS Sn) (yl:List Sn) (yp:Int) (yu:Int):St:=⟨107,[(101,.lref 0 ((w64 (((yl.length:Nat):Int) - 1)).toNat) 2 1),(100,.lref 0 ((w64 (((yl.length:Nat):Int) - 1)).toNat) 2 0),(99,I (zu ((yl.getD ((w64 (((yl.length:Nat):Int) - 1)).toNat) default).hi) ((GS.at yy yu).hi))),(98,I ((GS.at yy yu).hi)),(97,.lref 1 0 2 1),(96,I ((yl.getD ((w64 (((yl.length:Nat):Int) - 1)).toNat) default).hi)),(95,.lref 0 ((w64 (((yl.length:Nat):Int) - 1)).toNat) 2 1),(94,.lref 0 ((w64 (((yl.length:Nat):Int) - 1)).toNat) 2 0),(93,I (w64 (((yl.length:Nat):Int) - 1))),(92,I ((yl.length:Nat):Int)),(91,.lsl 0 0 yl.length 2 none),(90,I (w64 (((yl.length:Nat):Int) - 1))),(89,I ((yl.length:Nat):Int)),(88,.lsl 0 0 yl.length 2 none),(87,B true),(86,B true),(85,I (w64 (((yl.getD ((w64 (((yl.length:Nat):Int) - 1)).toNat) default).hi)+1))),(84,I ((yl.getD ((w64 (((yl.length:Nat):Int) - 1)).toNat) default).hi)),(83,.lref 0 ((w64 (((yl.length:Nat):Int) - 1)).toNat) 2 1),(82,.lref 0 ((w64 (((yl.length:Nat):Int) - 1)).toNat) 2 0),(81,I (w64 (((yl.length:Nat):Int) - 1))),(80,I ((yl.length:Nat):Int)),(79,.lsl 0 0 yl.length 2 none),(78,I ((GS.at yy yu).lo)),(77,.lref 1 0 2 0),(76,B true),(75,B true),(74,I ((yl.length:Nat):Int)),(9,I ((yl.length:Nat):Int)),(73,I ((yl.length:Nat):Int)),(72,.lsl 0 0 yl.length 2 none),(7,I (w64 (yu+1))),(71,I (w64 (yu+1))),(70,I yu),(69,.agg [I ((GS.at yy yu).lo),I ((GS.at yy yu).hi)]),(68,.ptr (.agg [I ((GS.at yy yu).lo),I ((GS.at yy yu).hi)])),(67,I yu),(66,.sl yy.nl (yy.l.map Sn.D) (zsl yy.nl 2) none),(59,B false),(58,B false),(57,.tup []),(56,.tup []),(55,.tup []),(54,.tup []),(53,.tup []),(52,.tup []),(51,.tup []),(50,.tup []),(49,.tup []),(48,.tup []),(47,.tup []),(46,B false),(45,B false),(44,I ((yw.l.length:Nat):Int)),(43,.sl yw.nl (yw.l.map Sn.D) (zsl yw.nl 2) none),(42,I yp),(41,B false),(40,B false),(39,I ((yy.l.length:Nat):Int)),(38,.sl yy.nl (yy.l.map Sn.D) (zsl yy.nl 2) none),(37,I yu),(8,.lref 1 0 2 0),(36,.agg [I 0,I 0]),(35,B true),(34,B true),(33,I ((yy.l.length:Nat):Int)),(32,.sl yy.nl (yy.l.map Sn.D) (zsl yy.nl 2) none),(31,I yu),(30,B false),(29,B false),(28,I ((yw.l.length:Nat):Int)),(27,.sl yw.nl (yw.l.map Sn.D) (zsl yw.nl 2) none),(26,I yp),(3,.sl yw.nl (yw.l.map Sn.D) (zsl yw.nl 2) none),(4,.sl yy.nl (yy.l.map Sn.D) (zsl yy.nl 2) none),(5,.lsl 0 0 yl.length 2 none),(6,I yp),(7,I yu)],[(0,⟨(yl.set ((w64 (((yl.length:Nat):Int) - 1)).toNat) (⟨(yl.getD ((w64 (((yl.length:Nat):Int) - 1)).toNat) default).lo,zu ((yl.getD ((w64 (((yl.length:Nat):Int) - 1)).toNat) default).hi) ((GS.at yy yu).hi)⟩:Sn)).map Sn.D,2,false⟩),(1,⟨[.agg [I ((GS.at yy yu).lo),I ((GS.at yy yu).hi)]],2,false⟩)],2,0⟩

def sd20298 (yw:GS Sn) (yy:GS Sn) (yl:List Sn) (yp:Int) (yu:Int):St:=⟨107,[(5,.lsl 3 0 ((yl++[(GS.at yy yu)]).length) 2 none),(105,.lsl 3 0 ((yl++[(GS.at yy yu)]).length) 2 none),(104,.lsl 2 0 1 2 (some 1)),(103,.agg [I ((GS.at yy yu).lo),I ((GS.at yy yu).hi)]),(102,.lsl 0 0 yl.length 2 none),(87,B false),(86,B false),(85,I (w64 (((yl.getD ((w64 (((yl.length:Nat):Int) - 1)).toNat) default).hi)+1))),(84,I ((yl.getD ((w64 (((yl.length:Nat):Int) - 1)).toNat) default).hi)),(83,.lref 0 ((w64 (((yl.length:Nat):Int) - 1)).toNat) 2 1),(82,.lref 0 ((w64 (((yl.length:Nat):Int) - 1)).toNat) 2 0),(81,I (w64 (((yl.length:Nat):Int) - 1))),(80,I ((yl.length:Nat):Int)),(79,.lsl 0 0 yl.length 2 none),(78,I ((GS.at yy yu).lo)),(77,.lref 1 0 2 0),(76,B true),(75,B true),(74,I ((yl.length:Nat):Int)),(9,I ((yl.length:Nat):Int)),(73,I ((yl.length:Nat):Int)),(72,.lsl 0 0 yl.length 2 none),(7,I (w64 (yu+1))),(71,I (w64 (yu+1))),(70,I yu),(69,.agg [I ((GS.at yy yu).lo),I ((GS.at yy yu).hi)]),(68,.ptr (.agg [I ((GS.at yy yu).lo),I ((GS.at yy yu).hi)])),(67,I yu),(66,.sl yy.nl (yy.l.map Sn.D) (zsl yy.nl 2) none),(59,B false),(58,B false),(57,.tup []),(56,.tup []),(55,.tup []),(54,.tup []),(53,.tup []),(52,.tup []),(51,.tup []),(50,.tup []),(49,.tup []),(48,.tup []),(47,.tup []),(46,B false),(45,B false),(44,I ((yw.l.length:Nat):Int)),(43,.sl yw.nl (yw.l.map Sn.D) (zsl yw.nl 2) none),(42,I yp),(41,B false),(40,B false),(39,I ((yy.l.length:Nat):Int)),(38,.sl yy.nl (yy.l.map Sn.D) (zsl yy.nl 2) none),(37,I yu),(8,.lref 1 0 2 0),(36,.agg [I 0,I 0]),(35,B true),(34,B true),(33,I ((yy.l.length:Nat):Int)),(32,.sl yy.nl (yy.l.map Sn.D) (zsl yy.nl 2) none),(31,I yu),(30,B false),(29,B false),(28,I ((yw.l.length:Nat):Int)),(27,.sl yw.nl (yw.l.map Sn.D) (zsl yw.nl 2) none),(26,I yp),(3,.sl yw.nl (yw.l.map Sn.D) (zsl yw.nl 2) none),(4,.sl yy.nl (yy.l.map Sn.D) (zsl yy.nl 2) none),(5,.lsl 0 0 yl.length 2 none),(6,I yp),(7,I yu)],[(1,⟨[.agg [I ((GS.at yy yu).lo),I ((GS.at yy yu).hi)]],2,false⟩),(2,⟨[.agg [I ((GS.at yy yu).lo),I ((GS.at yy yu).hi)]],2,false⟩),(3,⟨(yl++[(GS.at yy yu)]).map Sn.D,2,false⟩)],4,0⟩

def sd20299 (yw:GS Sn) (yy:GS Sn) (yl:List Sn) (yp:Int) (yu:Int):St:=⟨107,[(5,.lsl 3 0 ((yl++[(GS.at yy yu)]).length) 2 none),(105,.lsl 3 0 ((yl++[(GS.at yy yu)]).length) 2 none),(104,.lsl 2 0 1 2 (some 1)),(103,.agg [I ((GS.at yy yu).lo),I ((GS.at yy yu).hi)]),(102,.lsl 0 0 yl.length 2 none),(87,B false),(86,.tup []),(85,.tup []),(84,.tup []),(83,.tup []),(82,.tup []),(81,.tup []),(80,.tup []),(79,.tup []),(78,.tup []),(77,.tup []),(76,B false),(75,B false),(74,I ((yl.length:Nat):Int)),(9,I ((yl.length:Nat):Int)),(73,I ((yl.length:Nat):Int)),(72,.lsl 0 0 yl.length 2 none),(7,I (w64 (yu+1))),(71,I (w64 (yu+1))),(70,I yu),(69,.agg [I ((GS.at yy yu).lo),I ((GS.at yy yu).hi)]),(68,.ptr (.agg [I ((GS.at yy yu).lo),I ((GS.at yy yu).hi)])),(67,I yu),(66,.sl yy.nl (yy.l.map Sn.D) (zsl yy.nl 2) none),(59,B false),(58,B false),(57,.tup []),(56,.tup []),(55,.tup []),(54,.tup []),(53,.tup []),(52,.tup []),(51,.tup []),(50,.tup []),(49,.tup []),(48,.tup []),(47,.tup []),(46,B false),(45,B false),(44,I ((yw.l.length:Nat):Int)),(43,.sl yw.nl (yw.l.map Sn.D) (zsl yw.nl 2) none),(42,I yp),(41,B false),(40,B false),(39,I ((yy.l.length:Nat):Int)),(38,.sl yy.nl (yy.l.map Sn.D) (zsl yy.nl 2) none),(37,I yu),(8,.lref 1 0 2 0),(36,.agg [I 0,I 0]),(35,B true),(34,B true),(33,I ((yy.l.length:Nat):Int)),(32,.sl yy.nl (yy.l.map Sn.D) (zsl yy.nl 2) none),(31,I yu),(30,B false),(29,B false),(28,I ((yw.l.length:Nat):Int)),(27,.sl yw.nl (yw.l.map Sn.D) (zsl yw.nl 2) none),(26,I yp),(3,.sl yw.nl (yw.l.map Sn.D) (zsl yw.nl 2) none),(4,.sl yy.nl (yy.l.map Sn.D) (zsl yy.nl 2) none),(5,.lsl 0 0 yl.length 2 none),(6,I yp),(7,I yu)],[(1,⟨[.agg [I ((GS.at yy yu).lo),I ((GS.at yy yu).hi)]],2,false⟩),(2,⟨[.agg [I ((GS.at yy yu).lo),I ((GS.at yy yu).hi)]],2,false⟩),(3,⟨(yl++[(GS.at yy yu)]).map Sn.D,2,false⟩)],4,0⟩

inductive LR_r_Join_8 where
 | x0 (yl:List Sn) (yp:Int) (yu:Int)
 | x1
 | out
instance:Inhabited LR_r_Join_8:=⟨.out⟩
def zO (yw:GS Sn) (yy:GS Sn):Nat→(List Sn)→Int→Int→LR_r_Join_8
 | 0,_,_,_=>.out
 | xl+1,yl,yp,yu =>
  bif decide (yp < ((yw.l.length:Nat):Int)) then
   bif (yu == ((yy.l.length:Nat):Int)) then
    bif decide (((yl.length:Nat):Int) > 0) then
     bif decide (((GS.at yw yp).lo)≤(w64 (((yl.getD ((w64 (((yl.length:Nat):Int) - 1)).toNat) default).hi)+1))) then
      zO yw yy xl (yl.set ((w64 (((yl.length:Nat):Int) - 1)).toNat) (⟨(yl.getD ((w64 (((yl.length:Nat):Int) - 1)).toNat) default).lo,zu ((yl.getD ((w64 (((yl.length:Nat):Int) - 1)).toNat) default).hi) ((GS.at yw yp).hi)⟩:Sn)) (w64 (yp+1)) yu
     else
      zO yw yy xl (yl++[(GS.at yw yp)]) (w64 (yp+1)) yu
    else
     zO yw yy xl (yl++[(GS.at yw yp)]) (w64 (yp+1)) yu
   else
    bif decide (((GS.at yw yp).lo)≤((GS.at yy yu).lo)) then
     bif decide (((yl.length:Nat):Int) > 0) then
      bif decide (((GS.at yw yp).lo)≤(w64 (((yl.getD ((w64 (((yl.length:Nat):Int) - 1)).toNat) default).hi)+1))) then
       zO yw yy xl (yl.set ((w64 (((yl.length:Nat):Int) - 1)).toNat) (⟨(yl.getD ((w64 (((yl.length:Nat):Int) - 1)).toNat) default).lo,zu ((yl.getD ((w64 (((yl.length:Nat):Int) - 1)).toNat) default).hi) ((GS.at yw yp).hi)⟩:Sn)) (w64 (yp+1)) yu
      else
       zO yw yy xl (yl++[(GS.at yw yp)]) (w64 (yp+1)) yu
     else
      zO yw yy xl (yl++[(GS.at yw yp)]) (w64 (yp+1)) yu
    else
     bif decide (((yl.length:Nat):Int) > 0) then
      bif decide (((GS.at yy yu).lo)≤(w64 (((yl.getD ((w64 (((yl.length:Nat):Int) - 1)).toNat) default).hi)+1))) then
       zO yw yy xl (yl.set ((w64 (((yl.length:Nat):Int) - 1)).toNat) (⟨(yl.getD ((w64 (((yl.length:Nat):Int) - 1)).toNat) default).lo,zu ((yl.getD ((w64 (((yl.length:Nat):Int) - 1)).toNat) default).hi) ((GS.at yy yu).hi)⟩:Sn)) yp (w64 (yu+1))
      else
       zO yw yy xl (yl++[(GS.at yy yu)]) yp (w64 (yu+1))
     else
      zO yw yy xl (yl++[(GS.at yy yu)]) yp (w64 (yu+1))
  else
   bif decide (yu < ((yy.l.length:Nat):Int)) then
    bif (yu == ((yy.l.length:Nat):Int)) then
     bif decide (((yl.length:Nat):Int) > 0) then
      bif decide (((GS.at yw yp).lo)≤(w64 (((yl.getD ((w64 (((yl.length:Nat):Int) - 1)).toNat) default).hi)+1))) then
       zO yw yy xl (yl.set ((w64 (((yl.length:Nat):Int) - 1)).toNat) (⟨(yl.getD ((w64 (((yl.length:Nat):Int) - 1)).toNat) default).lo,zu ((yl.getD ((w64 (((yl.length:Nat):Int) - 1)).toNat) default).hi) ((GS.at yw yp).hi)⟩:Sn)) (w64 (yp+1)) yu
      else
       zO yw yy xl (yl++[(GS.at yw yp)]) (w64 (yp+1)) yu
     else
      zO yw yy xl (yl++[(GS.at yw yp)]) (w64 (yp+1)) yu
    else
     bif decide (((yl.length:Nat):Int) > 0) then
      bif decide (((GS.at yy yu).lo)≤(w64 (((yl.getD ((w64 (((yl.length:Nat):Int) - 1)).toNat) default).hi)+1))) then
       zO yw yy xl (yl.set ((w64 (((yl.length:Nat):Int) - 1)).toNat) (⟨(yl.getD ((w64 (((yl.length:Nat):Int) - 1)).toNat) default).lo,zu ((yl.getD ((w64 (((yl.length:Nat):Int) - 1)).toNat) default).hi) ((GS.at yy yu).hi)⟩:Sn)) yp (w64 (yu+1))
      else
       zO yw yy xl (yl++[(GS.at yy yu)]) yp (w64 (yu+1))
     else
      zO yw yy xl (yl++[(GS.at yy yu)]) yp (w64 (yu+1))
   else
    .x0 yl yp yu
def r_Join_8 (yw:GS Sn) (yy:GS Sn):Nat→LR_r_Join_8
 | 0=>.out
 | xl+1 =>
  bif decide (0 < ((yw.l.length:Nat):Int)) then
   bif (0 == ((yy.l.length:Nat):Int)) then
    zO yw yy xl [(GS.at yw 0)] 1 0
   else
    bif decide (((GS.at yw 0).lo)≤((GS.at yy 0).lo)) then
     zO yw yy xl [(GS.at yw 0)] 1 0
    else
     zO yw yy xl [(GS.at yy 0)] 0 1
  else
   bif decide (0 < ((yy.l.length:Nat):Int)) then
    bif (0 == ((yy.l.length:Nat):Int)) then
     zO yw yy xl [(GS.at yw 0)] 1 0
    else
     zO yw yy xl [(GS.at yy 0)] 0 1
   else
    .x1
def lr_r_Join_8 (yw:GS Sn) (yy:GS Sn):LR_r_Join_8→Exit × St
 | .x0 yl yp yu=>((.exit 0),⟨107,[(35,B false),(34,B false),(33,I ((yy.l.length:Nat):Int)),(32,.sl yy.nl (yy.l.map Sn.D) (zsl yy.nl 2) none),(31,I yu),(30,B false),(29,B false),(28,I ((yw.l.length:Nat):Int)),(27,.sl yw.nl (yw.l.map Sn.D) (zsl yw.nl 2) none),(26,I yp),(3,.sl yw.nl (yw.l.map Sn.D) (zsl yw.nl 2) none),(4,.sl yy.nl (yy.l.map Sn.D) (zsl yy.nl 2) none),(5,.lsl 0 0 yl.length 2 none),(6,I yp),(7,I yu)],[(0,⟨yl.map Sn.D,2,false⟩)],1,0⟩)
 | .x1=>((.exit 0),⟨107,[(35,B false),(34,B false),(33,I ((yy.l.length:Nat):Int)),(32,.sl yy.nl (yy.l.map Sn.D) (zsl yy.nl 2) none),(31,I 0),(30,B false),(29,B false),(28,I ((yw.l.length:Nat):Int)),(27,.sl yw.nl (yw.l.map Sn.D) (zsl yw.nl 2) none),(26,I 0),(3,.sl yw.nl (yw.l.map Sn.D) (zsl yw.nl 2) none),(4,.sl yy.nl (yy.l.map Sn.D) (zsl yy.nl 2) none),(5,.sl true [] 0 none),(6,I 0),(7,I 0)],[],0,0⟩)
 | .out=>(.normal,⟨0,[],[],0,0⟩)
def iv_r_Join_8 (yw:GS Sn) (yy:GS Sn):LR_r_Join_8→Prop
 | .x0 yl yp yu=>(0≤yp∧yp≤((yw.l.length:Nat):Int))∧(0≤yu∧yu≤((yy.l.length:Nat):Int))∧(1≤yl.length∧((yl.length:Nat):Int)≤yp+yu)
 | .x1=>True
 | .out=>True
def r_Join_8a_f_o1 (yw:GS Sn) (yy:GS Sn) (yp:Int):List Ora:=[.rw 28 (I ((yw.l.length:Nat):Int)),.dec true,.rw 39 (I ((yy.l.length:Nat):Int)),.dec true,.el (.agg [I ((GS.at yw yp).lo),I ((GS.at yw yp).hi)])]
def r_Join_8a_f_o2 (yl:List Sn):List Ora:=[.dec true,.op (some 82) ⟨.lref 0 ((w64 (((yl.length:Nat):Int) - 1)).toNat) 2 0,[],[],2⟩,.op (some 84) ⟨I ((yl.getD ((w64 (((yl.length:Nat):Int) - 1)).toNat) default).hi),[],[0],2⟩]
def r_Join_8a_f_o3 (yw:GS Sn) (yy:GS Sn) (yp:Int) (yu:Int):List Ora:=[.rw 28 (I ((yw.l.length:Nat):Int)),.dec true,.rw 39 (I ((yy.l.length:Nat):Int)),.dec false,.rw 44 (I ((yw.l.length:Nat):Int)),.dec true,.el (.agg [I ((GS.at yw yp).lo),I ((GS.at yw yp).hi)]),.el (.agg [I ((GS.at yy yu).lo),I ((GS.at yy yu).hi)])]
def r_Join_8a_f_o4 (yw:GS Sn) (yl:List Sn) (yp:Int):List Ora:=[.dec true,.el (.agg [I ((GS.at yw yp).lo),I ((GS.at yw yp).hi)]),.dec true,.op (some 82) ⟨.lref 0 ((w64 (((yl.length:Nat):Int) - 1)).toNat) 2 0,[],[],2⟩,.op (some 84) ⟨I ((yl.getD ((w64 (((yl.length:Nat):Int) - 1)).toNat) default).hi),[],[0],2⟩]
def r_Join_8a_f_o5 (yy:GS Sn) (yl:List Sn) (yu:Int):List Ora:=[.dec false,.el (.agg [I ((GS.at yy yu).lo),I ((GS.at yy yu).hi)]),.dec true,.op (some 82) ⟨.lref 0 ((w64 (((yl.length:Nat):Int) - 1)).toNat) 2 0,[],[],2⟩,.op (some 84) ⟨I ((yl.getD ((w64 (((yl.length:Nat):Int) - 1)).toNat) default).hi),[],[0],2⟩]
def r_Join_8a_f_o6 (yw:GS Sn) (yy:GS Sn):List Ora:=[.rw 28 (I ((yw.l.length:Nat):Int)),.dec false,.rw 33 (I ((yy.l.length:Nat):Int)),.dec true,.rw 39 (I ((yy.l.length:Nat):Int))]
def r_Join_8a_f_o7 (yw:GS Sn) (yl:List Sn) (yp:Int):List Ora:=[.dec true,.el (.agg [I ((GS.at yw yp).lo),I ((GS.at yw yp).hi)]),.dec true,.op (some 82) ⟨.lref 0 ((w64 (((yl.length:Nat):Int) - 1)).toNat) 2 0,[],[],2⟩,.op (some 84) ⟨I ((yl.getD ((w64 (((yl.length:Nat):Int) - 1)).toNat) default).hi),[],[0],2⟩]
def r_Join_8a_f_o8 (yw:GS Sn) (yy:GS Sn) (yu:Int):List Ora:=[.dec false,.rw 44 (I ((yw.l.length:Nat):Int)),.dec false,.el (.agg [I ((GS.at yy yu).lo),I ((GS.at yy yu).hi)])]
def r_Join_8a_f_o9 (yl:List Sn):List Ora:=[.dec true,.op (some 82) ⟨.lref 0 ((w64 (((yl.length:Nat):Int) - 1)).toNat) 2 0,[],[],2⟩,.op (some 84) ⟨I ((yl.getD ((w64 (((yl.length:Nat):Int) - 1)).toNat) default).hi),[],[0],2⟩]
theorem lp_r_Join_8a (yw:GS Sn) (yy:GS Sn):∀ (xl:Nat) (yl:List Sn) (yp:Int) (yu:Int) (hf8:zO yw yy xl yl yp yu ≠ .out) (ha32:yw.l.length≤1073741824) (hb32:yy.l.length≤1073741824) (hi1:0≤yp∧yp≤((yw.l.length:Nat):Int)) (hk1:0≤yu∧yu≤((yy.l.length:Nat):Int)) (ho1:1≤yl.length∧((yl.length:Nat):Int)≤yp+yu),(lim cfg).loop 75 lp75_8 ⟨107,[(3,.sl yw.nl (yw.l.map Sn.D) (zsl yw.nl 2) none),(4,.sl yy.nl (yy.l.map Sn.D) (zsl yy.nl 2) none),(5,.lsl 0 0 yl.length 2 none),(6,I yp),(7,I yu)],[(0,⟨yl.map Sn.D,2,false⟩)],1,0⟩=some (lr_r_Join_8 yw yy (zO yw yy xl yl yp yu)):=by
 intro xl
 induction xl with
 | zero =>
  intro yl yp yu hf8 ha32 hb32 hi1 hk1 ho1
  exact absurd rfl hf8
 | succ xl ih =>
  intro yl yp yu hf8 ha32 hb32 hi1 hk1 ho1
  unfold zO at hf8 ⊢
  revert hf8
  cases h22:decide (yp < ((yw.l.length:Nat):Int)) with
  | true =>
   have g22:=of_decide_eq_true h22
   cases h23:(yu == ((yy.l.length:Nat):Int)) with
   | true =>
    have g23:=eq_of_beq h23
    have p1:=(el_in (s:=yw) (f:=Sn.D) (k:=2) (i:=yp) (by omega) (by omega))
    cases h24:decide (((yl.length:Nat):Int) > 0) with
    | true =>
     have g24:=of_decide_eq_true h24
     have p2:=(idx_row (C:=cfg) (nxt:=2) (t:=22) (ty:=ty22) (te:=zM) (e:=25) (o:=0) (len:=yl.length) (sz:=2) (cap:=none) (i:=w64 (((yl.length:Nat):Int) - 1)) (by kernel_rfl) rfl (by kernel_rfl) rfl (by simp only [List.length_append,List.length_cons,List.length_nil,zi] at * <;> omega) (by simp only [List.length_append,List.length_cons,List.length_nil,zi] at * <;> omega))
     have p3:=(load_row (C:=cfg) (objs:=[(0,⟨yl.map Sn.D,2,false⟩),(1,⟨[.agg [I ((GS.at yw yp).lo),I ((GS.at yw yp).hi)]],2,false⟩)]) (nxt:=2) (t:=3) (ty:=ty3) (o:=0) (n:=(w64 (((yl.length:Nat):Int) - 1)).toNat) (sz:=2) (sub:=1) (ob:=⟨yl.map Sn.D,2,false⟩) (e:=Sn.D (yl.getD ((w64 (((yl.length:Nat):Int) - 1)).toNat) default)) (d:=I ((yl.getD ((w64 (((yl.length:Nat):Int) - 1)).toNat) default).hi)) (by kernel_rfl) (by kernel_rfl) rfl (row_get (f:=Sn.D) (by simp only [List.length_append,List.length_cons,List.length_nil,zi] at * <;> omega)) (by kernel_rfl))
     cases h25:decide (((GS.at yw yp).lo)≤(w64 (((yl.getD ((w64 (((yl.length:Nat):Int) - 1)).toNat) default).hi)+1))) with
     | true =>
      have g25:=of_decide_eq_true h25
      intro hf8
      exact zv (ks:=[3,4,5,6,7]) (st':=(sd20285 yw yy yl yp yu)) ((r_Join_8a_f_o1 yw yy yp)++((r_Join_8a_f_o2 yl)++[.dec true,.op (some 94) ⟨.lref 0 ((w64 (((yl.length:Nat):Int) - 1)).toNat) 2 0,[],[],2⟩,.op (some 96) ⟨I ((yl.getD ((w64 (((yl.length:Nat):Int) - 1)).toNat) default).hi),[],[0],2⟩,.op (some 100) ⟨.lref 0 ((w64 (((yl.length:Nat):Int) - 1)).toNat) 2 0,[],[],2⟩,.stS 0 ⟨.tup [],[(0,some ⟨(yl.set ((w64 (((yl.length:Nat):Int) - 1)).toNat) (⟨(yl.getD ((w64 (((yl.length:Nat):Int) - 1)).toNat) default).lo,zu ((yl.getD ((w64 (((yl.length:Nat):Int) - 1)).toNat) default).hi) ((GS.at yw yp).hi)⟩:Sn)).map Sn.D,2,false⟩)],[0],2⟩])) (Ai (store_row (C:=cfg) (objs:=[(0,⟨yl.map Sn.D,2,false⟩),(1,⟨[.agg [I ((GS.at yw yp).lo),I ((GS.at yw yp).hi)]],2,false⟩)]) (nxt:=2) (t:=3) (ty:=ty3) (o:=0) (n:=(w64 (((yl.length:Nat):Int) - 1)).toNat) (sz:=2) (sub:=1) (els:=yl.map Sn.D) (els':=(yl.set ((w64 (((yl.length:Nat):Int) - 1)).toNat) (⟨(yl.getD ((w64 (((yl.length:Nat):Int) - 1)).toNat) default).lo,zu ((yl.getD ((w64 (((yl.length:Nat):Int) - 1)).toNat) default).hi) ((GS.at yw yp).hi)⟩:Sn)).map Sn.D) (e:=Sn.D (yl.getD ((w64 (((yl.length:Nat):Int) - 1)).toNat) default)) (e':=Sn.D (⟨(yl.getD ((w64 (((yl.length:Nat):Int) - 1)).toNat) default).lo,zu ((yl.getD ((w64 (((yl.length:Nat):Int) - 1)).toNat) default).hi) ((GS.at yw yp).hi)⟩:Sn)) (v:=I (zu ((yl.getD ((w64 (((yl.length:Nat):Int) - 1)).toNat) default).hi) ((GS.at yw yp).hi))) (by kernel_rfl) (by kernel_rfl) (row_get (f:=Sn.D) (by simp only [List.length_append,List.length_cons,List.length_nil,zi] at * <;> omega)) rfl (by kernel_rfl) rfl (by kernel_rfl) (row_set (f:=Sn.D))) (Ai (idx_row (C:=cfg) (nxt:=2) (t:=22) (ty:=ty22) (te:=zM) (e:=25) (o:=0) (len:=yl.length) (sz:=2) (cap:=none) (i:=w64 (((yl.length:Nat):Int) - 1)) (by kernel_rfl) rfl (by kernel_rfl) rfl (by simp only [List.length_append,List.length_cons,List.length_nil,zi] at * <;> omega) (by simp only [List.length_append,List.length_cons,List.length_nil,zi] at * <;> omega)) (Ai (load_row (C:=cfg) (objs:=[(0,⟨yl.map Sn.D,2,false⟩),(1,⟨[.agg [I ((GS.at yw yp).lo),I ((GS.at yw yp).hi)]],2,false⟩)]) (nxt:=2) (t:=3) (ty:=ty3) (o:=0) (n:=(w64 (((yl.length:Nat):Int) - 1)).toNat) (sz:=2) (sub:=1) (ob:=⟨yl.map Sn.D,2,false⟩) (e:=Sn.D (yl.getD ((w64 (((yl.length:Nat):Int) - 1)).toNat) default)) (d:=I ((yl.getD ((w64 (((yl.length:Nat):Int) - 1)).toNat) default).hi)) (by kernel_rfl) (by kernel_rfl) rfl (row_get (f:=Sn.D) (by simp only [List.length_append,List.length_cons,List.length_nil,zi] at * <;> omega)) (by kernel_rfl)) (Ai (idx_row (C:=cfg) (nxt:=2) (t:=22) (ty:=ty22) (te:=zM) (e:=25) (o:=0) (len:=yl.length) (sz:=2) (cap:=none) (i:=w64 (((yl.length:Nat):Int) - 1)) (by kernel_rfl) rfl (by kernel_rfl) rfl (by simp only [List.length_append,List.length_cons,List.length_nil,zi] at * <;> omega) (by simp only [List.length_append,List.length_cons,List.length_nil,zi] at * <;> omega)) (Ai h25 (Ai p3 (Ai p2 (Ai h24 (Ai p1 (Ai h23 (Ai (zj Sn.D yy) (Ai h22 (Ai (zj Sn.D yw) trivial))))))))))))) (by kernel_rfl) (by (simp only [sd20285,go_sem,List.length_set,Nat.reduceAdd,Nat.reduceEqDiff,Nat.reduceLT,Nat.reduceLeDiff,bI2,z8.idsL,z8.renL,z8.snapAll,z6.idsL,z6.renL,z6.snapAll]) <;> rfl) (ih (yl.set ((w64 (((yl.length:Nat):Int) - 1)).toNat) (⟨(yl.getD ((w64 (((yl.length:Nat):Int) - 1)).toNat) default).lo,zu ((yl.getD ((w64 (((yl.length:Nat):Int) - 1)).toNat) default).hi) ((GS.at yw yp).hi)⟩:Sn)) (w64 (yp+1)) yu hf8 (by omega) (by omega) (by simp only [List.length_append,List.length_cons,List.length_nil,zi] at * <;> omega) (by omega) (by simp only [zY,zV,GS.some_l,List.length_set,List.length_append,List.length_cons,List.length_nil,zi] at * <;> first | with_reducible assumption | omega)) (by kernel_rfl)
     | false =>
      have g25:=of_decide_eq_false h25
      intro hf8
      exact zv (ks:=[3,4,5,6,7]) (st':=(sd20286 yw yy yl yp yu)) ((r_Join_8a_f_o1 yw yy yp)++((r_Join_8a_f_o2 yl)++[.dec false,.op (some 105) ⟨.lsl 3 0 ((yl++[(GS.at yw yp)]).length) 2 none,[(0,none),(3,some ⟨(yl++[(GS.at yw yp)]).map Sn.D,2,false⟩)],[0,2],4⟩])) (Ai (app_row (f:=Sn.D) (te:=zM) (gO:=zp [(0,⟨yl.map Sn.D,2,false⟩),(1,⟨[.agg [I ((GS.at yw yp).lo),I ((GS.at yw yp).hi)]],2,false⟩),(2,⟨[.agg [I ((GS.at yw yp).lo),I ((GS.at yw yp).hi)]],2,false⟩)]) (nxt:=3) (o:=0) (o2:=2) (fz:=false) z6 yl (GS.at yw yp) (by kernel_rfl) (by kernel_rfl) rfl (by kernel_rfl) (by decide) ⟨by simp only [zM,big] <;> (omega),by simp only [big] <;> (omega)⟩) (Ai h25 (Ai p3 (Ai p2 (Ai h24 (Ai p1 (Ai h23 (Ai (zj Sn.D yy) (Ai h22 (Ai (zj Sn.D yw) trivial)))))))))) (by kernel_rfl) (by (simp only [sd20286,go_sem,List.length_set,Nat.reduceAdd,Nat.reduceEqDiff,Nat.reduceLT,Nat.reduceLeDiff,bI2,z8.idsL,z8.renL,z8.snapAll,z6.idsL,z6.renL,z6.snapAll]) <;> rfl) (ih (yl++[(GS.at yw yp)]) (w64 (yp+1)) yu hf8 (by omega) (by omega) (by simp only [List.length_append,List.length_cons,List.length_nil,zi] at * <;> omega) (by omega) (by simp only [List.length_append,List.length_cons,List.length_nil,zi] at * <;> omega)) (by kernel_rfl)
    | false =>
     have g24:=of_decide_eq_false h24
     intro hf8
     exact zv (ks:=[3,4,5,6,7]) (st':=(sd20287 yw yy yl yp yu)) ((r_Join_8a_f_o1 yw yy yp)++[.dec false,.op (some 105) ⟨.lsl 3 0 ((yl++[(GS.at yw yp)]).length) 2 none,[(0,none),(3,some ⟨(yl++[(GS.at yw yp)]).map Sn.D,2,false⟩)],[0,2],4⟩]) (Ai (app_row (f:=Sn.D) (te:=zM) (gO:=zp [(0,⟨yl.map Sn.D,2,false⟩),(1,⟨[.agg [I ((GS.at yw yp).lo),I ((GS.at yw yp).hi)]],2,false⟩),(2,⟨[.agg [I ((GS.at yw yp).lo),I ((GS.at yw yp).hi)]],2,false⟩)]) (nxt:=3) (o:=0) (o2:=2) (fz:=false) z6 yl (GS.at yw yp) (by kernel_rfl) (by kernel_rfl) rfl (by kernel_rfl) (by decide) ⟨by simp only [zM,big] <;> (omega),by simp only [big] <;> (omega)⟩) (Ai h24 (Ai p1 (Ai h23 (Ai (zj Sn.D yy) (Ai h22 (Ai (zj Sn.D yw) trivial))))))) (by kernel_rfl) (by (simp only [sd20287,go_sem,List.length_set,Nat.reduceAdd,Nat.reduceEqDiff,Nat.reduceLT,Nat.reduceLeDiff,bI2,z8.idsL,z8.renL,z8.snapAll,z6.idsL,z6.renL,z6.snapAll]) <;> rfl) (ih (yl++[(GS.at yw yp)]) (w64 (yp+1)) yu hf8 (by omega) (by omega) (by omega) (by omega) (by omega)) (by kernel_rfl)
   | false =>
    have g23:=ne_of_beq_false h23
    have p4:=(el_in (s:=yw) (f:=Sn.D) (k:=2) (i:=yp) (by omega) (by omega))
    have p5:=(el_in (s:=yy) (f:=Sn.D) (k:=2) (i:=yu) (by omega) (by omega))
    cases h26:decide (((GS.at yw yp).lo)≤((GS.at yy yu).lo)) with
    | true =>
     have g26:=of_decide_eq_true h26
     have p6:=(el_in (s:=yw) (f:=Sn.D) (k:=2) (i:=yp) (by omega) (by omega))
     cases h27:decide (((yl.length:Nat):Int) > 0) with
     | true =>
      have g27:=of_decide_eq_true h27
      have p7:=(idx_row (C:=cfg) (nxt:=2) (t:=22) (ty:=ty22) (te:=zM) (e:=25) (o:=0) (len:=yl.length) (sz:=2) (cap:=none) (i:=w64 (((yl.length:Nat):Int) - 1)) (by kernel_rfl) rfl (by kernel_rfl) rfl (by simp only [List.length_append,List.length_cons,List.length_nil,zi] at * <;> omega) (by simp only [List.length_append,List.length_cons,List.length_nil,zi] at * <;> omega))
      have p8:=(load_row (C:=cfg) (objs:=[(0,⟨yl.map Sn.D,2,false⟩),(1,⟨[.agg [I ((GS.at yw yp).lo),I ((GS.at yw yp).hi)]],2,false⟩)]) (nxt:=2) (t:=3) (ty:=ty3) (o:=0) (n:=(w64 (((yl.length:Nat):Int) - 1)).toNat) (sz:=2) (sub:=1) (ob:=⟨yl.map Sn.D,2,false⟩) (e:=Sn.D (yl.getD ((w64 (((yl.length:Nat):Int) - 1)).toNat) default)) (d:=I ((yl.getD ((w64 (((yl.length:Nat):Int) - 1)).toNat) default).hi)) (by kernel_rfl) (by kernel_rfl) rfl (row_get (f:=Sn.D) (by simp only [List.length_append,List.length_cons,List.length_nil,zi] at * <;> omega)) (by kernel_rfl))
      cases h28:decide (((GS.at yw yp).lo)≤(w64 (((yl.getD ((w64 (((yl.length:Nat):Int) - 1)).toNat) default).hi)+1))) with
      | true =>
       have g28:=of_decide_eq_true h28
       intro hf8
       exact zv (ks:=[3,4,5,6,7]) (st':=(sd20288 yw yy yl yp yu)) ((r_Join_8a_f_o3 yw yy yp yu)++((r_Join_8a_f_o4 yw yl yp)++[.dec true,.op (some 94) ⟨.lref 0 ((w64 (((yl.length:Nat):Int) - 1)).toNat) 2 0,[],[],2⟩,.op (some 96) ⟨I ((yl.getD ((w64 (((yl.length:Nat):Int) - 1)).toNat) default).hi),[],[0],2⟩,.op (some 100) ⟨.lref 0 ((w64 (((yl.length:Nat):Int) - 1)).toNat) 2 0,[],[],2⟩,.stS 0 ⟨.tup [],[(0,some ⟨(yl.set ((w64 (((yl.length:Nat):Int) - 1)).toNat) (⟨(yl.getD ((w64 (((yl.length:Nat):Int) - 1)).toNat) default).lo,zu ((yl.getD ((w64 (((yl.length:Nat):Int) - 1)).toNat) default).hi) ((GS.at yw yp).hi)⟩:Sn)).map Sn.D,2,false⟩)],[0],2⟩])) (Ai (store_row (C:=cfg) (objs:=[(0,⟨yl.map Sn.D,2,false⟩),(1,⟨[.agg [I ((GS.at yw yp).lo),I ((GS.at yw yp).hi)]],2,false⟩)]) (nxt:=2) (t:=3) (ty:=ty3) (o:=0) (n:=(w64 (((yl.length:Nat):Int) - 1)).toNat) (sz:=2) (sub:=1) (els:=yl.map Sn.D) (els':=(yl.set ((w64 (((yl.length:Nat):Int) - 1)).toNat) (⟨(yl.getD ((w64 (((yl.length:Nat):Int) - 1)).toNat) default).lo,zu ((yl.getD ((w64 (((yl.length:Nat):Int) - 1)).toNat) default).hi) ((GS.at yw yp).hi)⟩:Sn)).map Sn.D) (e:=Sn.D (yl.getD ((w64 (((yl.length:Nat):Int) - 1)).toNat) default)) (e':=Sn.D (⟨(yl.getD ((w64 (((yl.length:Nat):Int) - 1)).toNat) default).lo,zu ((yl.getD ((w64 (((yl.length:Nat):Int) - 1)).toNat) default).hi) ((GS.at yw yp).hi)⟩:Sn)) (v:=I (zu ((yl.getD ((w64 (((yl.length:Nat):Int) - 1)).toNat) default).hi) ((GS.at yw yp).hi))) (by kernel_rfl) (by kernel_rfl) (row_get (f:=Sn.D) (by simp only [List.length_append,List.length_cons,List.length_nil,zi] at * <;> omega)) rfl (by kernel_rfl) rfl (by kernel_rfl) (row_set (f:=Sn.D))) (Ai (idx_row (C:=cfg) (nxt:=2) (t:=22) (ty:=ty22) (te:=zM) (e:=25) (o:=0) (len:=yl.length) (sz:=2) (cap:=none) (i:=w64 (((yl.length:Nat):Int) - 1)) (by kernel_rfl) rfl (by kernel_rfl) rfl (by simp only [List.length_append,List.length_cons,List.length_nil,zi] at * <;> omega) (by simp only [List.length_append,List.length_cons,List.length_nil,zi] at * <;> omega)) (Ai (load_row (C:=cfg) (objs:=[(0,⟨yl.map Sn.D,2,false⟩),(1,⟨[.agg [I ((GS.at yw yp).lo),I ((GS.at yw yp).hi)]],2,false⟩)]) (nxt:=2) (t:=3) (ty:=ty3) (o:=0) (n:=(w64 (((yl.length:Nat):Int) - 1)).toNat) (sz:=2) (sub:=1) (ob:=⟨yl.map Sn.D,2,false⟩) (e:=Sn.D (yl.getD ((w64 (((yl.length:Nat):Int) - 1)).toNat) default)) (d:=I ((yl.getD ((w64 (((yl.length:Nat):Int) - 1)).toNat) default).hi)) (by kernel_rfl) (by kernel_rfl) rfl (row_get (f:=Sn.D) (by simp only [List.length_append,List.length_cons,List.length_nil,zi] at * <;> omega)) (by kernel_rfl)) (Ai (idx_row (C:=cfg) (nxt:=2) (t:=22) (ty:=ty22) (te:=zM) (e:=25) (o:=0) (len:=yl.length) (sz:=2) (cap:=none) (i:=w64 (((yl.length:Nat):Int) - 1)) (by kernel_rfl) rfl (by kernel_rfl) rfl (by simp only [List.length_append,List.length_cons,List.length_nil,zi] at * <;> omega) (by simp only [List.length_append,List.length_cons,List.length_nil,zi] at * <;> omega)) (Ai h28 (Ai p8 (Ai p7 (Ai h27 (Ai p6 (Ai h26 (Ai p5 (Ai p4 (Ai h22 (Ai (zj Sn.D yw) (Ai h23 (Ai (zj Sn.D yy) (Ai h22 (Ai (zj Sn.D yw) trivial)))))))))))))))))) (by kernel_rfl) (by (simp only [sd20288,go_sem,List.length_set,Nat.reduceAdd,Nat.reduceEqDiff,Nat.reduceLT,Nat.reduceLeDiff,bI2,z8.idsL,z8.renL,z8.snapAll,z6.idsL,z6.renL,z6.snapAll]) <;> rfl) (ih (yl.set ((w64 (((yl.length:Nat):Int) - 1)).toNat) (⟨(yl.getD ((w64 (((yl.length:Nat):Int) - 1)).toNat) default).lo,zu ((yl.getD ((w64 (((yl.length:Nat):Int) - 1)).toNat) default).hi) ((GS.at yw yp).hi)⟩:Sn)) (w64 (yp+1)) yu hf8 (by omega) (by omega) (by simp only [List.length_append,List.length_cons,List.length_nil,zi] at * <;> omega) (by omega) (by simp only [zY,zV,GS.some_l,List.length_set,List.length_append,List.length_cons,List.length_nil,zi] at * <;> first | with_reducible assumption | omega)) (by kernel_rfl)
      | false =>
       have g28:=of_decide_eq_false h28
       intro hf8
       exact zv (ks:=[3,4,5,6,7]) (st':=(sd20289 yw yy yl yp yu)) ((r_Join_8a_f_o3 yw yy yp yu)++((r_Join_8a_f_o4 yw yl yp)++[.dec false,.op (some 105) ⟨.lsl 3 0 ((yl++[(GS.at yw yp)]).length) 2 none,[(0,none),(3,some ⟨(yl++[(GS.at yw yp)]).map Sn.D,2,false⟩)],[0,2],4⟩])) (Ai (app_row (f:=Sn.D) (te:=zM) (gO:=zp [(0,⟨yl.map Sn.D,2,false⟩),(1,⟨[.agg [I ((GS.at yw yp).lo),I ((GS.at yw yp).hi)]],2,false⟩),(2,⟨[.agg [I ((GS.at yw yp).lo),I ((GS.at yw yp).hi)]],2,false⟩)]) (nxt:=3) (o:=0) (o2:=2) (fz:=false) z6 yl (GS.at yw yp) (by kernel_rfl) (by kernel_rfl) rfl (by kernel_rfl) (by decide) ⟨by simp only [zM,big] <;> (omega),by simp only [big] <;> (omega)⟩) (Ai h28 (Ai p8 (Ai p7 (Ai h27 (Ai p6 (Ai h26 (Ai p5 (Ai p4 (Ai h22 (Ai (zj Sn.D yw) (Ai h23 (Ai (zj Sn.D yy) (Ai h22 (Ai (zj Sn.D yw) trivial))))))))))))))) (by kernel_rfl) (by (simp only [sd20289,go_sem,List.length_set,Nat.reduceAdd,Nat.reduceEqDiff,Nat.reduceLT,Nat.reduceLeDiff,bI2,z8.idsL,z8.renL,z8.snapAll,z6.idsL,z6.renL,z6.snapAll]) <;> rfl) (ih (yl++[(GS.at yw yp)]) (w64 (yp+1)) yu hf8 (by omega) (by omega) (by simp only [List.length_append,List.length_cons,List.length_nil,zi] at * <;> omega) (by omega) (by simp only [List.length_append,List.length_cons,List.length_nil,zi] at * <;> omega)) (by kernel_rfl)
     | false =>
      have g27:=of_decide_eq_false h27
      intro hf8
      exact zv (ks:=[3,4,5,6,7]) (st':=(sd20290 yw yy yl yp yu)) ((r_Join_8a_f_o3 yw yy yp yu)++[.dec true,.el (.agg [I ((GS.at yw yp).lo),I ((GS.at yw yp).hi)]),.dec false,.op (some 105) ⟨.lsl 3 0 ((yl++[(GS.at yw yp)]).length) 2 none,[(0,none),(3,some ⟨(yl++[(GS.at yw yp)]).map Sn.D,2,false⟩)],[0,2],4⟩]) (Ai (app_row (f:=Sn.D) (te:=zM) (gO:=zp [(0,⟨yl.map Sn.D,2,false⟩),(1,⟨[.agg [I ((GS.at yw yp).lo),I ((GS.at yw yp).hi)]],2,false⟩),(2,⟨[.agg [I ((GS.at yw yp).lo),I ((GS.at yw yp).hi)]],2,false⟩)]) (nxt:=3) (o:=0) (o2:=2) (fz:=false) z6 yl (GS.at yw yp) (by kernel_rfl) (by kernel_rfl) rfl (by kernel_rfl) (by decide) ⟨by simp only [zM,big] <;> (omega),by simp only [big] <;> (omega)⟩) (Ai h27 (Ai p6 (Ai h26 (Ai p5 (Ai p4 (Ai h22 (Ai (zj Sn.D yw) (Ai h23 (Ai (zj Sn.D yy) (Ai h22 (Ai (zj Sn.D yw) trivial)))))))))))) (by kernel_rfl) (by (simp only [sd20290,go_sem,List.length_set,Nat.reduceAdd,Nat.reduceEqDiff,Nat.reduceLT,Nat.reduceLeDiff,bI2,z8.idsL,z8.renL,z8.snapAll,z6.idsL,z6.renL,z6.snapAll]) <;> rfl) (ih (yl++[(GS.at yw yp)]) (w64 (yp+1)) yu hf8 (by omega) (by omega) (by omega) (by omega) (by omega)) (by kernel_rfl)
    | false =>
     have g26:=of_decide_eq_false h26
     have p9:=(el_in (s:=yy) (f:=Sn.D) (k:=2) (i:=yu) (by omega) (by omega))
     cases h29:decide (((yl.length:Nat):Int) > 0) with
     | true =>
      have g29:=of_decide_eq_true h29
      have p10:=(idx_row (C:=cfg) (nxt:=2) (t:=22) (ty:=ty22) (te:=zM) (e:=25) (o:=0) (len:=yl.length) (sz:=2) (cap:=none) (i:=w64 (((yl.length:Nat):Int) - 1)) (by kernel_rfl) rfl (by kernel_rfl) rfl (by simp only [List.length_append,List.length_cons,List.length_nil,zi] at * <;> omega) (by simp only [List.length_append,List.length_cons,List.length_nil,zi] at * <;> omega))
      have p11:=(load_row (C:=cfg) (objs:=[(0,⟨yl.map Sn.D,2,false⟩),(1,⟨[.agg [I ((GS.at yy yu).lo),I ((GS.at yy yu).hi)]],2,false⟩)]) (nxt:=2) (t:=3) (ty:=ty3) (o:=0) (n:=(w64 (((yl.length:Nat):Int) - 1)).toNat) (sz:=2) (sub:=1) (ob:=⟨yl.map Sn.D,2,false⟩) (e:=Sn.D (yl.getD ((w64 (((yl.length:Nat):Int) - 1)).toNat) default)) (d:=I ((yl.getD ((w64 (((yl.length:Nat):Int) - 1)).toNat) default).hi)) (by kernel_rfl) (by kernel_rfl) rfl (row_get (f:=Sn.D) (by simp only [List.length_append,List.length_cons,List.length_nil,zi] at * <;> omega)) (by kernel_rfl))
      cases h30:decide (((GS.at yy yu).lo)≤(w64 (((yl.getD ((w64 (((yl.length:Nat):Int) - 1)).toNat) default).hi)+1))) with
      | true =>
       have g30:=of_decide_eq_true h30
       intro hf8
       exact zv (ks:=[3,4,5,6,7]) (st':=(sd20291 yw yy yl yp yu)) ((r_Join_8a_f_o3 yw yy yp yu)++((r_Join_8a_f_o5 yy yl yu)++[.dec true,.op (some 94) ⟨.lref 0 ((w64 (((yl.length:Nat):Int) - 1)).toNat) 2 0,[],[],2⟩,.op (some 96) ⟨I ((yl.getD ((w64 (((yl.length:Nat):Int) - 1)).toNat) default).hi),[],[0],2⟩,.op (some 100) ⟨.lref 0 ((w64 (((yl.length:Nat):Int) - 1)).toNat) 2 0,[],[],2⟩,.stS 0 ⟨.tup [],[(0,some ⟨(yl.set ((w64 (((yl.length:Nat):Int) - 1)).toNat) (⟨(yl.getD ((w64 (((yl.length:Nat):Int) - 1)).toNat) default).lo,zu ((yl.getD ((w64 (((yl.length:Nat):Int) - 1)).toNat) default).hi) ((GS.at yy yu).hi)⟩:Sn)).map Sn.D,2,false⟩)],[0],2⟩])) (Ai (store_row (C:=cfg) (objs:=[(0,⟨yl.map Sn.D,2,false⟩),(1,⟨[.agg [I ((GS.at yy yu).lo),I ((GS.at yy yu).hi)]],2,false⟩)]) (nxt:=2) (t:=3) (ty:=ty3) (o:=0) (n:=(w64 (((yl.length:Nat):Int) - 1)).toNat) (sz:=2) (sub:=1) (els:=yl.map Sn.D) (els':=(yl.set ((w64 (((yl.length:Nat):Int) - 1)).toNat) (⟨(yl.getD ((w64 (((yl.length:Nat):Int) - 1)).toNat) default).lo,zu ((yl.getD ((w64 (((yl.length:Nat):Int) - 1)).toNat) default).hi) ((GS.at yy yu).hi)⟩:Sn)).map Sn.D) (e:=Sn.D (yl.getD ((w64 (((yl.length:Nat):Int) - 1)).toNat) default)) (e':=Sn.D (⟨(yl.getD ((w64 (((yl.length:Nat):Int) - 1)).toNat) default).lo,zu ((yl.getD ((w64 (((yl.length:Nat):Int) - 1)).toNat) default).hi) ((GS.at yy yu).hi)⟩:Sn)) (v:=I (zu ((yl.getD ((w64 (((yl.length:Nat):Int) - 1)).toNat) default).hi) ((GS.at yy yu).hi))) (by kernel_rfl) (by kernel_rfl) (row_get (f:=Sn.D) (by simp only [List.length_append,List.length_cons,List.length_nil,zi] at * <;> omega)) rfl (by kernel_rfl) rfl (by kernel_rfl) (row_set (f:=Sn.D))) (Ai (idx_row (C:=cfg) (nxt:=2) (t:=22) (ty:=ty22) (te:=zM) (e:=25) (o:=0) (len:=yl.length) (sz:=2) (cap:=none) (i:=w64 (((yl.length:Nat):Int) - 1)) (by kernel_rfl) rfl (by kernel_rfl) rfl (by simp only [List.length_append,List.length_cons,List.length_nil,zi] at * <;> omega) (by simp only [List.length_append,List.length_cons,List.length_nil,zi] at * <;> omega)) (Ai (load_row (C:=cfg) (objs:=[(0,⟨yl.map Sn.D,2,false⟩),(1,⟨[.agg [I ((GS.at yy yu).lo),I ((GS.at yy yu).hi)]],2,false⟩)]) (nxt:=2) (t:=3) (ty:=ty3) (o:=0) (n:=(w64 (((yl.length:Nat):Int) - 1)).toNat) (sz:=2) (sub:=1) (ob:=⟨yl.map Sn.D,2,false⟩) (e:=Sn.D (yl.getD ((w64 (((yl.length:Nat):Int) - 1)).toNat) default)) (d:=I ((yl.getD ((w64 (((yl.length:Nat):Int) - 1)).toNat) default).hi)) (by kernel_rfl) (by kernel_rfl) rfl (row_get (f:=Sn.D) (by simp only [List.length_append,List.length_cons,List.length_nil,zi] at * <;> omega)) (by kernel_rfl)) (Ai (idx_row (C:=cfg) (nxt:=2) (t:=22) (ty:=ty22) (te:=zM) (e:=25) (o:=0) (len:=yl.length) (sz:=2) (cap:=none) (i:=w64 (((yl.length:Nat):Int) - 1)) (by kernel_rfl) rfl (by kernel_rfl) rfl (by simp only [List.length_append,List.length_cons,List.length_nil,zi] at * <;> omega) (by simp only [List.length_append,List.length_cons,List.length_nil,zi] at * <;> omega)) (Ai h30 (Ai p11 (Ai p10 (Ai h29 (Ai p9 (Ai h26 (Ai p5 (Ai p4 (Ai h22 (Ai (zj Sn.D yw) (Ai h23 (Ai (zj Sn.D yy) (Ai h22 (Ai (zj Sn.D yw) trivial)))))))))))))))))) (by kernel_rfl) (by (simp only [sd20291,go_sem,List.length_set,Nat.reduceAdd,Nat.reduceEqDiff,Nat.reduceLT,Nat.reduceLeDiff,bI2,z8.idsL,z8.renL,z8.snapAll,z6.idsL,z6.renL,z6.snapAll]) <;> rfl) (ih (yl.set ((w64 (((yl.length:Nat):Int) - 1)).toNat) (⟨(yl.getD ((w64 (((yl.length:Nat):Int) - 1)).toNat) default).lo,zu ((yl.getD ((w64 (((yl.length:Nat):Int) - 1)).toNat) default).hi) ((GS.at yy yu).hi)⟩:Sn)) yp (w64 (yu+1)) hf8 (by omega) (by omega) (by omega) (by simp only [List.length_append,List.length_cons,List.length_nil,zi] at * <;> omega) (by simp only [zY,zV,GS.some_l,List.length_set,List.length_append,List.length_cons,List.length_nil,zi] at * <;> first | with_reducible assumption | omega)) (by kernel_rfl)
      | false =>
       have g30:=of_decide_eq_false h30
       intro hf8
       exact zv (ks:=[3,4,5,6,7]) (st':=(sd20292 yw yy yl yp yu)) ((r_Join_8a_f_o3 yw yy yp yu)++((r_Join_8a_f_o5 yy yl yu)++[.dec false,.op (some 105) ⟨.lsl 3 0 ((yl++[(GS.at yy yu)]).length) 2 none,[(0,none),(3,some ⟨(yl++[(GS.at yy yu)]).map Sn.D,2,false⟩)],[0,2],4⟩])) (Ai (app_row (f:=Sn.D) (te:=zM) (gO:=zp [(0,⟨yl.map Sn.D,2,false⟩),(1,⟨[.agg [I ((GS.at yy yu).lo),I ((GS.at yy yu).hi)]],2,false⟩),(2,⟨[.agg [I ((GS.at yy yu).lo),I ((GS.at yy yu).hi)]],2,false⟩)]) (nxt:=3) (o:=0) (o2:=2) (fz:=false) z6 yl (GS.at yy yu) (by kernel_rfl) (by kernel_rfl) rfl (by kernel_rfl) (by decide) ⟨by simp only [zM,big] <;> (omega),by simp only [big] <;> (omega)⟩) (Ai h30 (Ai p11 (Ai p10 (Ai h29 (Ai p9 (Ai h26 (Ai p5 (Ai p4 (Ai h22 (Ai (zj Sn.D yw) (Ai h23 (Ai (zj Sn.D yy) (Ai h22 (Ai (zj Sn.D yw) trivial))))))))))))))) (by kernel_rfl) (by (simp only [sd20292,go_sem,List.length_set,Nat.reduceAdd,Nat.reduceEqDiff,Nat.reduceLT,Nat.reduceLeDiff,bI2,z8.idsL,z8.renL,z8.snapAll,z6.idsL,z6.renL,z6.snapAll]) <;> rfl) (ih (yl++[(GS.at yy yu)]) yp (w64 (yu+1)) hf8 (by omega) (by omega) (by omega) (by simp only [List.length_append,List.length_cons,List.length_nil,zi] at * <;> omega) (by simp only [List.length_append,List.length_cons,List.length_nil,zi] at * <;> omega)) (by kernel_rfl)
     | false =>
      have g29:=of_decide_eq_false h29
      intro hf8
      exact zv (ks:=[3,4,5,6,7]) (st':=(sd20293 yw yy yl yp yu)) ((r_Join_8a_f_o3 yw yy yp yu)++[.dec false,.el (.agg [I ((GS.at yy yu).lo),I ((GS.at yy yu).hi)]),.dec false,.op (some 105) ⟨.lsl 3 0 ((yl++[(GS.at yy yu)]).length) 2 none,[(0,none),(3,some ⟨(yl++[(GS.at yy yu)]).map Sn.D,2,false⟩)],[0,2],4⟩]) (Ai (app_row (f:=Sn.D) (te:=zM) (gO:=zp [(0,⟨yl.map Sn.D,2,false⟩),(1,⟨[.agg [I ((GS.at yy yu).lo),I ((GS.at yy yu).hi)]],2,false⟩),(2,⟨[.agg [I ((GS.at yy yu).lo),I ((GS.at yy yu).hi)]],2,false⟩)]) (nxt:=3) (o:=0) (o2:=2) (fz:=false) z6 yl (GS.at yy yu) (by kernel_rfl) (by kernel_rfl) rfl (by kernel_rfl) (by decide) ⟨by simp only [zM,big] <;> (omega),by simp only [big] <;> (omega)⟩) (Ai h29 (Ai p9 (Ai h26 (Ai p5 (Ai p4 (Ai h22 (Ai (zj Sn.D yw) (Ai h23 (Ai (zj Sn.D yy) (Ai h22 (Ai (zj Sn.D yw) trivial)))))))))))) (by kernel_rfl) (by (simp only [sd20293,go_sem,List.length_set,Nat.reduceAdd,Nat.reduceEqDiff,Nat.reduceLT,Nat.reduceLeDiff,bI2,z8.idsL,z8.renL,z8.snapAll,z6.idsL,z6.renL,z6.snapAll]) <;> rfl) (ih (yl++[(GS.at yy yu)]) yp (w64 (yu+1)) hf8 (by omega) (by omega) (by omega) (by omega) (by omega)) (by kernel_rfl)
  | false =>
   have g22:=of_decide_eq_false h22
   cases h31:decide (yu < ((yy.l.length:Nat):Int)) with
   | true =>
    have g31:=of_decide_eq_true h31
    cases h32:(yu == ((yy.l.length:Nat):Int)) with
    | true =>
     have g32:=eq_of_beq h32
     have p12:=(el_in (s:=yw) (f:=Sn.D) (k:=2) (i:=yp) (by omega) (by omega))
     cases h33:decide (((yl.length:Nat):Int) > 0) with
     | true =>
      have g33:=of_decide_eq_true h33
      have p13:=(idx_row (C:=cfg) (nxt:=2) (t:=22) (ty:=ty22) (te:=zM) (e:=25) (o:=0) (len:=yl.length) (sz:=2) (cap:=none) (i:=w64 (((yl.length:Nat):Int) - 1)) (by kernel_rfl) rfl (by kernel_rfl) rfl (by omega) (by omega))
      have p14:=(load_row (C:=cfg) (objs:=[(0,⟨yl.map Sn.D,2,false⟩),(1,⟨[.agg [I ((GS.at yw yp).lo),I ((GS.at yw yp).hi)]],2,false⟩)]) (nxt:=2) (t:=3) (ty:=ty3) (o:=0) (n:=(w64 (((yl.length:Nat):Int) - 1)).toNat) (sz:=2) (sub:=1) (ob:=⟨yl.map Sn.D,2,false⟩) (e:=Sn.D (yl.getD ((w64 (((yl.length:Nat):Int) - 1)).toNat) default)) (d:=I ((yl.getD ((w64 (((yl.length:Nat):Int) - 1)).toNat) default).hi)) (by kernel_rfl) (by kernel_rfl) rfl (row_get (f:=Sn.D) (by omega)) (by kernel_rfl))
      cases h34:decide (((GS.at yw yp).lo)≤(w64 (((yl.getD ((w64 (((yl.length:Nat):Int) - 1)).toNat) default).hi)+1))) with
      | true =>
       have g34:=of_decide_eq_true h34
       intro hf8
       exact zv (ks:=[3,4,5,6,7]) (st':=(sd20294 yw yy yl yp yu)) ((r_Join_8a_f_o6 yw yy)++((r_Join_8a_f_o7 yw yl yp)++[.dec true,.op (some 94) ⟨.lref 0 ((w64 (((yl.length:Nat):Int) - 1)).toNat) 2 0,[],[],2⟩,.op (some 96) ⟨I ((yl.getD ((w64 (((yl.length:Nat):Int) - 1)).toNat) default).hi),[],[0],2⟩,.op (some 100) ⟨.lref 0 ((w64 (((yl.length:Nat):Int) - 1)).toNat) 2 0,[],[],2⟩,.stS 0 ⟨.tup [],[(0,some ⟨(yl.set ((w64 (((yl.length:Nat):Int) - 1)).toNat) (⟨(yl.getD ((w64 (((yl.length:Nat):Int) - 1)).toNat) default).lo,zu ((yl.getD ((w64 (((yl.length:Nat):Int) - 1)).toNat) default).hi) ((GS.at yw yp).hi)⟩:Sn)).map Sn.D,2,false⟩)],[0],2⟩])) (Ai (store_row (C:=cfg) (objs:=[(0,⟨yl.map Sn.D,2,false⟩),(1,⟨[.agg [I ((GS.at yw yp).lo),I ((GS.at yw yp).hi)]],2,false⟩)]) (nxt:=2) (t:=3) (ty:=ty3) (o:=0) (n:=(w64 (((yl.length:Nat):Int) - 1)).toNat) (sz:=2) (sub:=1) (els:=yl.map Sn.D) (els':=(yl.set ((w64 (((yl.length:Nat):Int) - 1)).toNat) (⟨(yl.getD ((w64 (((yl.length:Nat):Int) - 1)).toNat) default).lo,zu ((yl.getD ((w64 (((yl.length:Nat):Int) - 1)).toNat) default).hi) ((GS.at yw yp).hi)⟩:Sn)).map Sn.D) (e:=Sn.D (yl.getD ((w64 (((yl.length:Nat):Int) - 1)).toNat) default)) (e':=Sn.D (⟨(yl.getD ((w64 (((yl.length:Nat):Int) - 1)).toNat) default).lo,zu ((yl.getD ((w64 (((yl.length:Nat):Int) - 1)).toNat) default).hi) ((GS.at yw yp).hi)⟩:Sn)) (v:=I (zu ((yl.getD ((w64 (((yl.length:Nat):Int) - 1)).toNat) default).hi) ((GS.at yw yp).hi))) (by kernel_rfl) (by kernel_rfl) (row_get (f:=Sn.D) (by omega)) rfl (by kernel_rfl) rfl (by kernel_rfl) (row_set (f:=Sn.D))) (Ai (idx_row (C:=cfg) (nxt:=2) (t:=22) (ty:=ty22) (te:=zM) (e:=25) (o:=0) (len:=yl.length) (sz:=2) (cap:=none) (i:=w64 (((yl.length:Nat):Int) - 1)) (by kernel_rfl) rfl (by kernel_rfl) rfl (by omega) (by omega)) (Ai (load_row (C:=cfg) (objs:=[(0,⟨yl.map Sn.D,2,false⟩),(1,⟨[.agg [I ((GS.at yw yp).lo),I ((GS.at yw yp).hi)]],2,false⟩)]) (nxt:=2) (t:=3) (ty:=ty3) (o:=0) (n:=(w64 (((yl.length:Nat):Int) - 1)).toNat) (sz:=2) (sub:=1) (ob:=⟨yl.map Sn.D,2,false⟩) (e:=Sn.D (yl.getD ((w64 (((yl.length:Nat):Int) - 1)).toNat) default)) (d:=I ((yl.getD ((w64 (((yl.length:Nat):Int) - 1)).toNat) default).hi)) (by kernel_rfl) (by kernel_rfl) rfl (row_get (f:=Sn.D) (by omega)) (by kernel_rfl)) (Ai (idx_row (C:=cfg) (nxt:=2) (t:=22) (ty:=ty22) (te:=zM) (e:=25) (o:=0) (len:=yl.length) (sz:=2) (cap:=none) (i:=w64 (((yl.length:Nat):Int) - 1)) (by kernel_rfl) rfl (by kernel_rfl) rfl (by omega) (by omega)) (Ai h34 (Ai p14 (Ai p13 (Ai h33 (Ai p12 (Ai h32 (Ai (zj Sn.D yy) (Ai h31 (Ai (zj Sn.D yy) (Ai h22 (Ai (zj Sn.D yw) trivial))))))))))))))) (by kernel_rfl) (by (simp only [sd20294,go_sem,List.length_set,Nat.reduceAdd,Nat.reduceEqDiff,Nat.reduceLT,Nat.reduceLeDiff,bI2,z8.idsL,z8.renL,z8.snapAll,z6.idsL,z6.renL,z6.snapAll]) <;> rfl) (ih (yl.set ((w64 (((yl.length:Nat):Int) - 1)).toNat) (⟨(yl.getD ((w64 (((yl.length:Nat):Int) - 1)).toNat) default).lo,zu ((yl.getD ((w64 (((yl.length:Nat):Int) - 1)).toNat) default).hi) ((GS.at yw yp).hi)⟩:Sn)) (w64 (yp+1)) yu hf8 (by omega) (by omega) (by omega) (by omega) (by omega)) (by kernel_rfl)
      | false =>
       have g34:=of_decide_eq_false h34
       intro hf8
       exact zv (ks:=[3,4,5,6,7]) (st':=(sd20295 yw yy yl yp yu)) ((r_Join_8a_f_o6 yw yy)++((r_Join_8a_f_o7 yw yl yp)++[.dec false,.op (some 105) ⟨.lsl 3 0 ((yl++[(GS.at yw yp)]).length) 2 none,[(0,none),(3,some ⟨(yl++[(GS.at yw yp)]).map Sn.D,2,false⟩)],[0,2],4⟩])) (Ai (app_row (f:=Sn.D) (te:=zM) (gO:=zp [(0,⟨yl.map Sn.D,2,false⟩),(1,⟨[.agg [I ((GS.at yw yp).lo),I ((GS.at yw yp).hi)]],2,false⟩),(2,⟨[.agg [I ((GS.at yw yp).lo),I ((GS.at yw yp).hi)]],2,false⟩)]) (nxt:=3) (o:=0) (o2:=2) (fz:=false) z6 yl (GS.at yw yp) (by kernel_rfl) (by kernel_rfl) rfl (by kernel_rfl) (by decide) ⟨by simp only [zM,big] <;> (omega),by simp only [big] <;> (omega)⟩) (Ai h34 (Ai p14 (Ai p13 (Ai h33 (Ai p12 (Ai h32 (Ai (zj Sn.D yy) (Ai h31 (Ai (zj Sn.D yy) (Ai h22 (Ai (zj Sn.D yw) trivial)))))))))))) (by kernel_rfl) (by (simp only [sd20295,go_sem,List.length_set,Nat.reduceAdd,Nat.reduceEqDiff,Nat.reduceLT,Nat.reduceLeDiff,bI2,z8.idsL,z8.renL,z8.snapAll,z6.idsL,z6.renL,z6.snapAll]) <;> rfl) (ih (yl++[(GS.at yw yp)]) (w64 (yp+1)) yu hf8 (by omega) (by omega) (by omega) (by omega) (by omega)) (by kernel_rfl)
     | false =>
      have g33:=of_decide_eq_false h33
      intro hf8
      exact zv (ks:=[3,4,5,6,7]) (st':=(sd20296 yw yy yl yp yu)) ((r_Join_8a_f_o6 yw yy)++[.dec true,.el (.agg [I ((GS.at yw yp).lo),I ((GS.at yw yp).hi)]),.dec false,.op (some 105) ⟨.lsl 3 0 ((yl++[(GS.at yw yp)]).length) 2 none,[(0,none),(3,some ⟨(yl++[(GS.at yw yp)]).map Sn.D,2,false⟩)],[0,2],4⟩]) (Ai (app_row (f:=Sn.D) (te:=zM) (gO:=zp [(0,⟨yl.map Sn.D,2,false⟩),(1,⟨[.agg [I ((GS.at yw yp).lo),I ((GS.at yw yp).hi)]],2,false⟩),(2,⟨[.agg [I ((GS.at yw yp).lo),I ((GS.at yw yp).hi)]],2,false⟩)]) (nxt:=3) (o:=0) (o2:=2) (fz:=false) z6 yl (GS.at yw yp) (by kernel_rfl) (by kernel_rfl) rfl (by kernel_rfl) (by decide) ⟨by simp only [zM,big] <;> (omega),by simp only [big] <;> (omega)⟩) (Ai h33 (Ai p12 (Ai h32 (Ai (zj Sn.D yy) (Ai h31 (Ai (zj Sn.D yy) (Ai h22 (Ai (zj Sn.D yw) trivial))))))))) (by kernel_rfl) (by (simp only [sd20296,go_sem,List.length_set,Nat.reduceAdd,Nat.reduceEqDiff,Nat.reduceLT,Nat.reduceLeDiff,bI2,z8.idsL,z8.renL,z8.snapAll,z6.idsL,z6.renL,z6.snapAll]) <;> rfl) (ih (yl++[(GS.at yw yp)]) (w64 (yp+1)) yu hf8 (by omega) (by omega) (by omega) (by omega) (by omega)) (by kernel_rfl)
    | false =>
     have g32:=ne_of_beq_false h32
     have p15:=(el_in (s:=yy) (f:=Sn.D) (k:=2) (i:=yu) (by omega) (by omega))
     cases h35:decide (((yl.length:Nat):Int) > 0) with
     | true =>
      have g35:=of_decide_eq_true h35
      have p16:=(idx_row (C:=cfg) (nxt:=2) (t:=22) (ty:=ty22) (te:=zM) (e:=25) (o:=0) (len:=yl.length) (sz:=2) (cap:=none) (i:=w64 (((yl.length:Nat):Int) - 1)) (by kernel_rfl) rfl (by kernel_rfl) rfl (by simp only [List.length_append,List.length_cons,List.length_nil,zi] at * <;> omega) (by simp only [List.length_append,List.length_cons,List.length_nil,zi] at * <;> omega))
      have p17:=(load_row (C:=cfg) (objs:=[(0,⟨yl.map Sn.D,2,false⟩),(1,⟨[.agg [I ((GS.at yy yu).lo),I ((GS.at yy yu).hi)]],2,false⟩)]) (nxt:=2) (t:=3) (ty:=ty3) (o:=0) (n:=(w64 (((yl.length:Nat):Int) - 1)).toNat) (sz:=2) (sub:=1) (ob:=⟨yl.map Sn.D,2,false⟩) (e:=Sn.D (yl.getD ((w64 (((yl.length:Nat):Int) - 1)).toNat) default)) (d:=I ((yl.getD ((w64 (((yl.length:Nat):Int) - 1)).toNat) default).hi)) (by kernel_rfl) (by kernel_rfl) rfl (row_get (f:=Sn.D) (by simp only [List.length_append,List.length_cons,List.length_nil,zi] at * <;> omega)) (by kernel_rfl))
      cases h36:decide (((GS.at yy yu).lo)≤(w64 (((yl.getD ((w64 (((yl.length:Nat):Int) - 1)).toNat) default).hi)+1))) with
      | true =>
       have g36:=of_decide_eq_true h36
       intro hf8
       exact zv (ks:=[3,4,5,6,7]) (st':=(sd20297 yw yy yl yp yu)) ((r_Join_8a_f_o6 yw yy)++((r_Join_8a_f_o8 yw yy yu)++((r_Join_8a_f_o9 yl)++[.dec true,.op (some 94) ⟨.lref 0 ((w64 (((yl.length:Nat):Int) - 1)).toNat) 2 0,[],[],2⟩,.op (some 96) ⟨I ((yl.getD ((w64 (((yl.length:Nat):Int) - 1)).toNat) default).hi),[],[0],2⟩,.op (some 100) ⟨.lref 0 ((w64 (((yl.length:Nat):Int) - 1)).toNat) 2 0,[],[],2⟩,.stS 0 ⟨.tup [],[(0,some ⟨(yl.set ((w64 (((yl.length:Nat):Int) - 1)).toNat) (⟨(yl.getD ((w64 (((yl.length:Nat):Int) - 1)).toNat) default).lo,zu ((yl.getD ((w64 (((yl.length:Nat):Int) - 1)).toNat) default).hi) ((GS.at yy yu).hi)⟩:Sn)).map Sn.D,2,false⟩)],[0],2⟩]))) (Ai (store_row (C:=cfg) (objs:=[(0,⟨yl.map Sn.D,2,false⟩),(1,⟨[.agg [I ((GS.at yy yu).lo),I ((GS.at yy yu).hi)]],2,false⟩)]) (nxt:=2) (t:=3) (ty:=ty3) (o:=0) (n:=(w64 (((yl.length:Nat):Int) - 1)).toNat) (sz:=2) (sub:=1) (els:=yl.map Sn.D) (els':=(yl.set ((w64 (((yl.length:Nat):Int) - 1)).toNat) (⟨(yl.getD ((w64 (((yl.length:Nat):Int) - 1)).toNat) default).lo,zu ((yl.getD ((w64 (((yl.length:Nat):Int) - 1)).toNat) default).hi) ((GS.at yy yu).hi)⟩:Sn)).map Sn.D) (e:=Sn.D (yl.getD ((w64 (((yl.length:Nat):Int) - 1)).toNat) default)) (e':=Sn.D (⟨(yl.getD ((w64 (((yl.length:Nat):Int) - 1)).toNat) default).lo,zu ((yl.getD ((w64 (((yl.length:Nat):Int) - 1)).toNat) default).hi) ((GS.at yy yu).hi)⟩:Sn)) (v:=I (zu ((yl.getD ((w64 (((yl.length:Nat):Int) - 1)).toNat) default).hi) ((GS.at yy yu).hi))) (by kernel_rfl) (by kernel_rfl) (row_get (f:=Sn.D) (by simp only [List.length_append,List.length_cons,List.length_nil,zi] at * <;> omega)) rfl (by kernel_rfl) rfl (by kernel_rfl) (row_set (f:=Sn.D))) (Ai (idx_row (C:=cfg) (nxt:=2) (t:=22) (ty:=ty22) (te:=zM) (e:=25) (o:=0) (len:=yl.length) (sz:=2) (cap:=none) (i:=w64 (((yl.length:Nat):Int) - 1)) (by kernel_rfl) rfl (by kernel_rfl) rfl (by simp only [List.length_append,List.length_cons,List.length_nil,zi] at * <;> omega) (by simp only [List.length_append,List.length_cons,List.length_nil,zi] at * <;> omega)) (Ai (load_row (C:=cfg) (objs:=[(0,⟨yl.map Sn.D,2,false⟩),(1,⟨[.agg [I ((GS.at yy yu).lo),I ((GS.at yy yu).hi)]],2,false⟩)]) (nxt:=2) (t:=3) (ty:=ty3) (o:=0) (n:=(w64 (((yl.length:Nat):Int) - 1)).toNat) (sz:=2) (sub:=1) (ob:=⟨yl.map Sn.D,2,false⟩) (e:=Sn.D (yl.getD ((w64 (((yl.length:Nat):Int) - 1)).toNat) default)) (d:=I ((yl.getD ((w64 (((yl.length:Nat):Int) - 1)).toNat) default).hi)) (by kernel_rfl) (by kernel_rfl) rfl (row_get (f:=Sn.D) (by simp only [List.length_append,List.length_cons,List.length_nil,zi] at * <;> omega)) (by kernel_rfl)) (Ai (idx_row (C:=cfg) (nxt:=2) (t:=22) (ty:=ty22) (te:=zM) (e:=25) (o:=0) (len:=yl.length) (sz:=2) (cap:=none) (i:=w64 (((yl.length:Nat):Int) - 1)) (by kernel_rfl) rfl (by kernel_rfl) rfl (by simp only [List.length_append,List.length_cons,List.length_nil,zi] at * <;> omega) (by simp only [List.length_append,List.length_cons,List.length_nil,zi] at * <;> omega)) (Ai h36 (Ai p17 (Ai p16 (Ai h35 (Ai p15 (Ai h22 (Ai (zj Sn.D yw) (Ai h32 (Ai (zj Sn.D yy) (Ai h31 (Ai (zj Sn.D yy) (Ai h22 (Ai (zj Sn.D yw) trivial))))))))))))))))) (by kernel_rfl) (by (simp only [sd20297,go_sem,List.length_set,Nat.reduceAdd,Nat.reduceEqDiff,Nat.reduceLT,Nat.reduceLeDiff,bI2,z8.idsL,z8.renL,z8.snapAll,z6.idsL,z6.renL,z6.snapAll]) <;> rfl) (ih (yl.set ((w64 (((yl.length:Nat):Int) - 1)).toNat) (⟨(yl.getD ((w64 (((yl.length:Nat):Int) - 1)).toNat) default).lo,zu ((yl.getD ((w64 (((yl.length:Nat):Int) - 1)).toNat) default).hi) ((GS.at yy yu).hi)⟩:Sn)) yp (w64 (yu+1)) hf8 (by omega) (by omega) (by omega) (by simp only [List.length_append,List.length_cons,List.length_nil,zi] at * <;> omega) (by simp only [zY,zV,GS.some_l,List.length_set,List.length_append,List.length_cons,List.length_nil,zi] at * <;> first | with_reducible assumption | omega)) (by kernel_rfl)
      | false =>
       have g36:=of_decide_eq_false h36
       intro hf8
       exact zv (ks:=[3,4,5,6,7]) (st':=(sd20298 yw yy yl yp yu)) ((r_Join_8a_f_o6 yw yy)++((r_Join_8a_f_o8 yw yy yu)++((r_Join_8a_f_o9 yl)++[.dec false,.op (some 105) ⟨.lsl 3 0 ((yl++[(GS.at yy yu)]).length) 2 none,[(0,none),(3,some ⟨(yl++[(GS.at yy yu)]).map Sn.D,2,false⟩)],[0,2],4⟩]))) (Ai (app_row (f:=Sn.D) (te:=zM) (gO:=zp [(0,⟨yl.map Sn.D,2,false⟩),(1,⟨[.agg [I ((GS.at yy yu).lo),I ((GS.at yy yu).hi)]],2,false⟩),(2,⟨[.agg [I ((GS.at yy yu).lo),I ((GS.at yy yu).hi)]],2,false⟩)]) (nxt:=3) (o:=0) (o2:=2) (fz:=false) z6 yl (GS.at yy yu) (by kernel_rfl) (by kernel_rfl) rfl (by kernel_rfl) (by decide) ⟨by simp only [zM,big] <;> (omega),by simp only [big] <;> (omega)⟩) (Ai h36 (Ai p17 (Ai p16 (Ai h35 (Ai p15 (Ai h22 (Ai (zj Sn.D yw) (Ai h32 (Ai (zj Sn.D yy) (Ai h31 (Ai (zj Sn.D yy) (Ai h22 (Ai (zj Sn.D yw) trivial)))))))))))))) (by kernel_rfl) (by (simp only [sd20298,go_sem,List.length_set,Nat.reduceAdd,Nat.reduceEqDiff,Nat.reduceLT,Nat.reduceLeDiff,bI2,z8.idsL,z8.renL,z8.snapAll,z6.idsL,z6.renL,z6.snapAll]) <;> rfl) (ih (yl++[(GS.at yy yu)]) yp (w64 (yu+1)) hf8 (by omega) (by omega) (by omega) (by simp only [List.length_append,List.length_cons,List.length_nil,zi] at * <;> omega) (by simp only [List.length_append,List.length_cons,List.length_nil,zi] at * <;> omega)) (by kernel_rfl)
     | false =>
      have g35:=of_decide_eq_false h35
      intro hf8
      exact zv (ks:=[3,4,5,6,7]) (st':=(sd20299 yw yy yl yp yu)) ((r_Join_8a_f_o6 yw yy)++((r_Join_8a_f_o8 yw yy yu)++[.dec false,.op (some 105) ⟨.lsl 3 0 ((yl++[(GS.at yy yu)]).length) 2 none,[(0,none),(3,some ⟨(yl++[(GS.at yy yu)]).map Sn.D,2,false⟩)],[0,2],4⟩])) (Ai (app_row (f:=Sn.D) (te:=zM) (gO:=zp [(0,⟨yl.map Sn.D,2,false⟩),(1,⟨[.agg [I ((GS.at yy yu).lo),I ((GS.at yy yu).hi)]],2,false⟩),(2,⟨[.agg [I ((GS.at yy yu).lo),I ((GS.at yy yu).hi)]],2,false⟩)]) (nxt:=3) (o:=0) (o2:=2) (fz:=false) z6 yl (GS.at yy yu) (by kernel_rfl) (by kernel_rfl) rfl (by kernel_rfl) (by decide) ⟨by simp only [zM,big] <;> (omega),by simp only [big] <;> (omega)⟩) (Ai h35 (Ai p15 (Ai h22 (Ai (zj Sn.D yw) (Ai h32 (Ai (zj Sn.D yy) (Ai h31 (Ai (zj Sn.D yy) (Ai h22 (Ai (zj Sn.D yw) trivial))))))))))) (by kernel_rfl) (by (simp only [sd20299,go_sem,List.length_set,Nat.reduceAdd,Nat.reduceEqDiff,Nat.reduceLT,Nat.reduceLeDiff,bI2,z8.idsL,z8.renL,z8.snapAll,z6.idsL,z6.renL,z6.snapAll]) <;> rfl) (ih (yl++[(GS.at yy yu)]) yp (w64 (yu+1)) hf8 (by omega) (by omega) (by omega) (by omega) (by omega)) (by kernel_rfl)
   | false =>
    have g31:=of_decide_eq_false h31
    intro hf8
    exact zF [.rw 28 (I ((yw.l.length:Nat):Int)),.dec false,.rw 33 (I ((yy.l.length:Nat):Int)),.dec false] (Ai h31 (Ai (zj Sn.D yy) (Ai h22 (Ai (zj Sn.D yw) trivial)))) (by kernel_rfl)
theorem ivt_r_Join_8a (yw:GS Sn) (yy:GS Sn):∀ (xl:Nat) (yl:List Sn) (yp:Int) (yu:Int) (hf8:zO yw yy xl yl yp yu ≠ .out) (ha32:yw.l.length≤1073741824) (hb32:yy.l.length≤1073741824) (hi1:0≤yp∧yp≤((yw.l.length:Nat):Int)) (hk1:0≤yu∧yu≤((yy.l.length:Nat):Int)) (ho1:1≤yl.length∧((yl.length:Nat):Int)≤yp+yu),iv_r_Join_8 yw yy (zO yw yy xl yl yp yu):=by
 intro xl
 induction xl with
 | zero =>
  intro yl yp yu hf8 ha32 hb32 hi1 hk1 ho1
  exact absurd rfl hf8
 | succ xl ih =>
  intro yl yp yu hf8 ha32 hb32 hi1 hk1 ho1
  unfold zO at hf8 ⊢
  revert hf8
  cases h22:decide (yp < ((yw.l.length:Nat):Int)) with
  | true =>
   have g22:=of_decide_eq_true h22
   cases h23:(yu == ((yy.l.length:Nat):Int)) with
   | true =>
    have g23:=eq_of_beq h23
    cases h24:decide (((yl.length:Nat):Int) > 0) with
    | true =>
     have g24:=of_decide_eq_true h24
     cases h25:decide (((GS.at yw yp).lo)≤(w64 (((yl.getD ((w64 (((yl.length:Nat):Int) - 1)).toNat) default).hi)+1))) with
     | true =>
      have g25:=of_decide_eq_true h25
      intro hf8
      exact ih (yl.set ((w64 (((yl.length:Nat):Int) - 1)).toNat) (⟨(yl.getD ((w64 (((yl.length:Nat):Int) - 1)).toNat) default).lo,zu ((yl.getD ((w64 (((yl.length:Nat):Int) - 1)).toNat) default).hi) ((GS.at yw yp).hi)⟩:Sn)) (w64 (yp+1)) yu hf8 (by omega) (by omega) (by simp only [List.length_append,List.length_cons,List.length_nil,zi] at * <;> omega) (by omega) (by simp only [zY,zV,GS.some_l,List.length_set,List.length_append,List.length_cons,List.length_nil,zi] at * <;> first | with_reducible assumption | omega)
     | false =>
      have g25:=of_decide_eq_false h25
      intro hf8
      exact ih (yl++[(GS.at yw yp)]) (w64 (yp+1)) yu hf8 (by omega) (by omega) (by simp only [List.length_append,List.length_cons,List.length_nil,zi] at * <;> omega) (by omega) (by simp only [List.length_append,List.length_cons,List.length_nil,zi] at * <;> omega)
    | false =>
     have g24:=of_decide_eq_false h24
     intro hf8
     exact ih (yl++[(GS.at yw yp)]) (w64 (yp+1)) yu hf8 (by omega) (by omega) (by omega) (by omega) (by omega)
   | false =>
    have g23:=ne_of_beq_false h23
    cases h26:decide (((GS.at yw yp).lo)≤((GS.at yy yu).lo)) with
    | true =>
     have g26:=of_decide_eq_true h26
     cases h27:decide (((yl.length:Nat):Int) > 0) with
     | true =>
      have g27:=of_decide_eq_true h27
      cases h28:decide (((GS.at yw yp).lo)≤(w64 (((yl.getD ((w64 (((yl.length:Nat):Int) - 1)).toNat) default).hi)+1))) with
      | true =>
       have g28:=of_decide_eq_true h28
       intro hf8
       exact ih (yl.set ((w64 (((yl.length:Nat):Int) - 1)).toNat) (⟨(yl.getD ((w64 (((yl.length:Nat):Int) - 1)).toNat) default).lo,zu ((yl.getD ((w64 (((yl.length:Nat):Int) - 1)).toNat) default).hi) ((GS.at yw yp).hi)⟩:Sn)) (w64 (yp+1)) yu hf8 (by omega) (by omega) (by simp only [List.length_append,List.length_cons,List.length_nil,zi] at * <;> omega) (by omega) (by simp only [zY,zV,GS.some_l,List.length_set,List.length_append,List.length_cons,List.length_nil,zi] at * <;> first | with_reducible assumption | omega)
      | false =>
       have g28:=of_decide_eq_false h28
       intro hf8
       exact ih (yl++[(GS.at yw yp)]) (w64 (yp+1)) yu hf8 (by omega) (by omega) (by simp only [List.length_append,List.length_cons,List.length_nil,zi] at * <;> omega) (by omega) (by simp only [List.length_append,List.length_cons,List.length_nil,zi] at * <;> omega)
     | false =>
      have g27:=of_decide_eq_false h27
      intro hf8
      exact ih (yl++[(GS.at yw yp)]) (w64 (yp+1)) yu hf8 (by omega) (by omega) (by omega) (by omega) (by omega)
    | false =>
     have g26:=of_decide_eq_false h26
     cases h29:decide (((yl.length:Nat):Int) > 0) with
     | true =>
      have g29:=of_decide_eq_true h29
      cases h30:decide (((GS.at yy yu).lo)≤(w64 (((yl.getD ((w64 (((yl.length:Nat):Int) - 1)).toNat) default).hi)+1))) with
      | true =>
       have g30:=of_decide_eq_true h30
       intro hf8
       exact ih (yl.set ((w64 (((yl.length:Nat):Int) - 1)).toNat) (⟨(yl.getD ((w64 (((yl.length:Nat):Int) - 1)).toNat) default).lo,zu ((yl.getD ((w64 (((yl.length:Nat):Int) - 1)).toNat) default).hi) ((GS.at yy yu).hi)⟩:Sn)) yp (w64 (yu+1)) hf8 (by omega) (by omega) (by omega) (by simp only [List.length_append,List.length_cons,List.length_nil,zi] at * <;> omega) (by simp only [zY,zV,GS.some_l,List.length_set,List.length_append,List.length_cons,List.length_nil,zi] at * <;> first | with_reducible assumption | omega)
      | false =>
       have g30:=of_decide_eq_false h30
       intro hf8
       exact ih (yl++[(GS.at yy yu)]) yp (w64 (yu+1)) hf8 (by omega) (by omega) (by omega) (by simp only [List.length_append,List.length_cons,List.length_nil,zi] at * <;> omega) (by simp only [List.length_append,List.length_cons,List.length_nil,zi] at * <;> omega)
     | false =>
      have g29:=of_decide_eq_false h29
      intro hf8
      exact ih (yl++[(GS.at yy yu)]) yp (w64 (yu+1)) hf8 (by omega) (by omega) (by omega) (by omega) (by omega)
  | false =>
   have g22:=of_decide_eq_false h22
   cases h31:decide (yu < ((yy.l.length:Nat):Int)) with
   | true =>
    have g31:=of_decide_eq_true h31
    cases h32:(yu == ((yy.l.length:Nat):Int)) with
    | true =>
     have g32:=eq_of_beq h32
     cases h33:decide (((yl.length:Nat):Int) > 0) with
     | true =>
      have g33:=of_decide_eq_true h33
      cases h34:decide (((GS.at yw yp).lo)≤(w64 (((yl.getD ((w64 (((yl.length:Nat):Int) - 1)).toNat) default).hi)+1))) with
      | true =>
       have g34:=of_decide_eq_true h34
       intro hf8
       exact ih (yl.set ((w64 (((yl.length:Nat):Int) - 1)).toNat) (⟨(yl.getD ((w64 (((yl.length:Nat):Int) - 1)).toNat) default).lo,zu ((yl.getD ((w64 (((yl.length:Nat):Int) - 1)).toNat) default).hi) ((GS.at yw yp).hi)⟩:Sn)) (w64 (yp+1)) yu hf8 (by omega) (by omega) (by omega) (by omega) (by omega)
      | false =>
       have g34:=of_decide_eq_false h34
       intro hf8
       exact ih (yl++[(GS.at yw yp)]) (w64 (yp+1)) yu hf8 (by omega) (by omega) (by omega) (by omega) (by omega)
     | false =>
      have g33:=of_decide_eq_false h33
      intro hf8
      exact ih (yl++[(GS.at yw yp)]) (w64 (yp+1)) yu hf8 (by omega) (by omega) (by omega) (by omega) (by omega)
    | false =>
     have g32:=ne_of_beq_false h32
     cases h35:decide (((yl.length:Nat):Int) > 0) with
     | true =>
      have g35:=of_decide_eq_true h35
      cases h36:decide (((GS.at yy yu).lo)≤(w64 (((yl.getD ((w64 (((yl.length:Nat):Int) - 1)).toNat) default).hi)+1))) with
      | true =>
       have g36:=of_decide_eq_true h36
       intro hf8
       exact ih (yl.set ((w64 (((yl.length:Nat):Int) - 1)).toNat) (⟨(yl.getD ((w64 (((yl.length:Nat):Int) - 1)).toNat) default).lo,zu ((yl.getD ((w64 (((yl.length:Nat):Int) - 1)).toNat) default).hi) ((GS.at yy yu).hi)⟩:Sn)) yp (w64 (yu+1)) hf8 (by omega) (by omega) (by omega) (by simp only [List.length_append,List.length_cons,List.length_nil,zi] at * <;> omega) (by simp only [zY,zV,GS.some_l,List.length_set,List.length_append,List.length_cons,List.length_nil,zi] at * <;> first | with_reducible assumption | omega)
      | false =>
       have g36:=of_decide_eq_false h36
       intro hf8
       exact ih (yl++[(GS.at yy yu)]) yp (w64 (yu+1)) hf8 (by omega) (by omega) (by omega) (by simp only [List.length_append,List.length_cons,List.length_nil,zi] at * <;> omega) (by simp only [List.length_append,List.length_cons,List.length_nil,zi] at * <;> omega)
     | false =>
      have g35:=of_decide_eq_false h35
      intro hf8
      exact ih (yl++[(GS.at yy yu)]) yp (w64 (yu+1)) hf8 (by omega) (by omega) (by omega) (by omega) (by omega)
   | false =>
    have g31:=of_decide_eq_false h31
    intro hf8
    exact ⟨hi1,hk1,ho1⟩
def r_Join_8_f_o1 (yw:GS Sn) (yy:GS Sn):List Ora:=[.rw 28 (I ((yw.l.length:Nat):Int)),.dec true,.rw 39 (I ((yy.l.length:Nat):Int)),.dec false,.rw 44 (I ((yw.l.length:Nat):Int)),.dec true,.el (.agg [I ((GS.at yw 0).lo),I ((GS.at yw 0).hi)]),.el (.agg [I ((GS.at yy 0).lo),I ((GS.at yy 0).hi)])]
def r_Join_8_f_o2 (yw:GS Sn) (yy:GS Sn):List Ora:=[.rw 28 (I ((yw.l.length:Nat):Int)),.dec false,.rw 33 (I ((yy.l.length:Nat):Int)),.dec true,.rw 39 (I ((yy.l.length:Nat):Int))]
theorem lp_r_Join_8 (yw:GS Sn) (yy:GS Sn):∀ (xl:Nat) (hf8:r_Join_8 yw yy xl ≠ .out) (ha32:yw.l.length≤1073741824) (hb32:yy.l.length≤1073741824),(lim cfg).loop 75 lp75_8 ⟨107,[(3,.sl yw.nl (yw.l.map Sn.D) (zsl yw.nl 2) none),(4,.sl yy.nl (yy.l.map Sn.D) (zsl yy.nl 2) none),(5,.sl true [] 0 none),(6,I 0),(7,I 0)],[],0,0⟩=some (lr_r_Join_8 yw yy (r_Join_8 yw yy xl)):=by
 intro xl
 induction xl with
 | zero =>
  intro hf8 ha32 hb32
  exact absurd rfl hf8
 | succ xl ih =>
  intro hf8 ha32 hb32
  unfold r_Join_8 at hf8 ⊢
  revert hf8
  cases h37:decide (0 < ((yw.l.length:Nat):Int)) with
  | true =>
   have g37:=of_decide_eq_true h37
   cases h38:(0 == ((yy.l.length:Nat):Int)) with
   | true =>
    have g38:=eq_of_beq h38
    intro hf8
    exact po_turn [.rw 28 (I ((yw.l.length:Nat):Int)),.dec true,.rw 39 (I ((yy.l.length:Nat):Int)),.dec true,.el (.agg [I ((GS.at yw 0).lo),I ((GS.at yw 0).hi)]),.rw 65 (I 1),.dec false] (Ai (Eq.refl false) (Ai (zadd_rw (x:=1) (by omega)) (Ai (el_in (s:=yw) (f:=Sn.D) (k:=2) (i:=0) (by omega) (by omega)) (Ai h38 (Ai (zj Sn.D yy) (Ai h37 (Ai (zj Sn.D yw) trivial))))))) (lp_r_Join_8a yw yy _ [(GS.at yw 0)] 1 0 hf8 (by omega) (by omega) (by omega) (by omega) (by simp only [List.length_append,List.length_cons,List.length_nil] at * <;> omega)) (by kernel_rfl)
   | false =>
    have g38:=ne_of_beq_false h38
    have p1:=(el_in (s:=yw) (f:=Sn.D) (k:=2) (i:=0) (by omega) (by omega))
    have p2:=(el_in (s:=yy) (f:=Sn.D) (k:=2) (i:=0) (by omega) (by omega))
    cases h39:decide (((GS.at yw 0).lo)≤((GS.at yy 0).lo)) with
    | true =>
     have g39:=of_decide_eq_true h39
     intro hf8
     exact po_turn ((r_Join_8_f_o1 yw yy)++[.dec true,.el (.agg [I ((GS.at yw 0).lo),I ((GS.at yw 0).hi)]),.rw 65 (I 1),.dec false]) (Ai (Eq.refl false) (Ai (zadd_rw (x:=1) (by omega)) (Ai (el_in (s:=yw) (f:=Sn.D) (k:=2) (i:=0) (by omega) (by omega)) (Ai h39 (Ai p2 (Ai p1 (Ai h37 (Ai (zj Sn.D yw) (Ai h38 (Ai (zj Sn.D yy) (Ai h37 (Ai (zj Sn.D yw) trivial)))))))))))) (lp_r_Join_8a yw yy _ [(GS.at yw 0)] 1 0 hf8 (by omega) (by omega) (by omega) (by omega) (by simp only [List.length_append,List.length_cons,List.length_nil] at * <;> omega)) (by kernel_rfl)
    | false =>
     have g39:=of_decide_eq_false h39
     intro hf8
     exact po_turn ((r_Join_8_f_o1 yw yy)++[.dec false,.el (.agg [I ((GS.at yy 0).lo),I ((GS.at yy 0).hi)]),.rw 71 (I 1),.dec false]) (Ai (Eq.refl false) (Ai (zadd_rw (x:=1) (by omega)) (Ai (el_in (s:=yy) (f:=Sn.D) (k:=2) (i:=0) (by omega) (by omega)) (Ai h39 (Ai p2 (Ai p1 (Ai h37 (Ai (zj Sn.D yw) (Ai h38 (Ai (zj Sn.D yy) (Ai h37 (Ai (zj Sn.D yw) trivial)))))))))))) (lp_r_Join_8a yw yy _ [(GS.at yy 0)] 0 1 hf8 (by omega) (by omega) (by omega) (by omega) (by simp only [List.length_append,List.length_cons,List.length_nil] at * <;> omega)) (by kernel_rfl)
  | false =>
   have g37:=of_decide_eq_false h37
   cases h40:decide (0 < ((yy.l.length:Nat):Int)) with
   | true =>
    have g40:=of_decide_eq_true h40
    cases h41:(0 == ((yy.l.length:Nat):Int)) with
    | true =>
     have g41:=eq_of_beq h41
     intro hf8
     exact po_turn ((r_Join_8_f_o2 yw yy)++[.dec true,.el (.agg [I ((GS.at yw 0).lo),I ((GS.at yw 0).hi)]),.rw 65 (I 1),.dec false]) (Ai (Eq.refl false) (Ai (zadd_rw (x:=1) (by omega)) (Ai (el_in (s:=yw) (f:=Sn.D) (k:=2) (i:=0) (by omega) (by omega)) (Ai h41 (Ai (zj Sn.D yy) (Ai h40 (Ai (zj Sn.D yy) (Ai h37 (Ai (zj Sn.D yw) trivial))))))))) (lp_r_Join_8a yw yy _ [(GS.at yw 0)] 1 0 hf8 (by omega) (by omega) (by omega) (by omega) (by omega)) (by kernel_rfl)
    | false =>
     have g41:=ne_of_beq_false h41
     intro hf8
     exact po_turn ((r_Join_8_f_o2 yw yy)++[.dec false,.rw 44 (I ((yw.l.length:Nat):Int)),.dec false,.el (.agg [I ((GS.at yy 0).lo),I ((GS.at yy 0).hi)]),.rw 71 (I 1),.dec false]) (Ai (Eq.refl false) (Ai (zadd_rw (x:=1) (by omega)) (Ai (el_in (s:=yy) (f:=Sn.D) (k:=2) (i:=0) (by omega) (by omega)) (Ai h37 (Ai (zj Sn.D yw) (Ai h41 (Ai (zj Sn.D yy) (Ai h40 (Ai (zj Sn.D yy) (Ai h37 (Ai (zj Sn.D yw) trivial))))))))))) (lp_r_Join_8a yw yy _ [(GS.at yy 0)] 0 1 hf8 (by omega) (by omega) (by omega) (by omega) (by simp only [List.length_append,List.length_cons,List.length_nil] at * <;> omega)) (by kernel_rfl)
   | false =>
    have g40:=of_decide_eq_false h40
    intro hf8
    exact zF [.rw 28 (I ((yw.l.length:Nat):Int)),.dec false,.rw 33 (I ((yy.l.length:Nat):Int)),.dec false] (Ai h40 (Ai (zj Sn.D yy) (Ai h37 (Ai (zj Sn.D yw) trivial)))) (by kernel_rfl)
theorem ivt_r_Join_8 (yw:GS Sn) (yy:GS Sn):∀ (xl:Nat) (hf8:r_Join_8 yw yy xl ≠ .out) (ha32:yw.l.length≤1073741824) (hb32:yy.l.length≤1073741824),iv_r_Join_8 yw yy (r_Join_8 yw yy xl):=by
 intro xl
 induction xl with
 | zero =>
  intro hf8 ha32 hb32
  exact absurd rfl hf8
 | succ xl ih =>
  intro hf8 ha32 hb32
  unfold r_Join_8 at hf8 ⊢
  revert hf8
  cases h37:decide (0 < ((yw.l.length:Nat):Int)) with
  | true =>
   have g37:=of_decide_eq_true h37
   cases h38:(0 == ((yy.l.length:Nat):Int)) with
   | true =>
    have g38:=eq_of_beq h38
    intro hf8
    exact ivt_r_Join_8a yw yy _ [(GS.at yw 0)] 1 0 hf8 (by omega) (by omega) (by omega) (by omega) (by simp only [List.length_append,List.length_cons,List.length_nil] at * <;> omega)
   | false =>
    have g38:=ne_of_beq_false h38
    cases h39:decide (((GS.at yw 0).lo)≤((GS.at yy 0).lo)) with
    | true =>
     have g39:=of_decide_eq_true h39
     intro hf8
     exact ivt_r_Join_8a yw yy _ [(GS.at yw 0)] 1 0 hf8 (by omega) (by omega) (by omega) (by omega) (by simp only [List.length_append,List.length_cons,List.length_nil] at * <;> omega)
    | false =>
     have g39:=of_decide_eq_false h39
     intro hf8
     exact ivt_r_Join_8a yw yy _ [(GS.at yy 0)] 0 1 hf8 (by omega) (by omega) (by omega) (by omega) (by simp only [List.length_append,List.length_cons,List.length_nil] at * <;> omega)
  | false =>
   have g37:=of_decide_eq_false h37
   cases h40:decide (0 < ((yy.l.length:Nat):Int)) with
   | true =>
    have g40:=of_decide_eq_true h40
    cases h41:(0 == ((yy.l.length:Nat):Int)) with
    | true =>
     have g41:=eq_of_beq h41
     intro hf8
     exact ivt_r_Join_8a yw yy _ [(GS.at yw 0)] 1 0 hf8 (by omega) (by omega) (by omega) (by omega) (by omega)
    | false =>
     have g41:=ne_of_beq_false h41
     intro hf8
     exact ivt_r_Join_8a yw yy _ [(GS.at yy 0)] 0 1 hf8 (by omega) (by omega) (by omega) (by omega) (by simp only [List.length_append,List.length_cons,List.length_nil] at * <;> omega)
   | false =>
    have g40:=of_decide_eq_false h40
    intro hf8
    exact trivial

theorem r_Join_ne' (p q:GS Sn) (hp:p.l.length≤1073741824) (hq:q.l.length≤1073741824):∀ (n:Nat) (v:List Sn) (i k:Int),0≤i→i≤p.l.length→0≤k→k≤q.l.length→(p.l.length:Int)+q.l.length - i - k < n→zO p q n v i k ≠ .out
 | 0,v,i,k,h0,h1,h2,h3,hn=>by omega
 | n+1,v,i,k,h0,h1,h2,h3,hn=>by
  have hi:i < p.l.length→∀ v',zO p q n v' (w64 (i+1)) k ≠ .out:=fun hl v'=>by
   rw [y7 (by omega) (by omega)]
   exact r_Join_ne' p q hp hq n v' _ _ (by omega) (by omega) h2 h3 (by omega)
  have hk:k < q.l.length→∀ v',zO p q n v' i (w64 (k+1)) ≠ .out:=fun hl v'=>by
   rw [y7 (by omega) (by omega)]
   exact r_Join_ne' p q hp hq n v' _ _ h0 h1 (by omega) (by omega) (by omega)
  unfold zO
  simp only [Bool.cond_eq_ite]
  repeat' split
  all_goals simp only [decide_eq_true_eq,beq_iff_eq] at *
  all_goals first | (intro h; cases h; done) | (exact hi (by omega) _) | (exact hk (by omega) _) | (exfalso; omega)
theorem r_Join_ne (p q:GS Sn) (hp:p.l.length≤1073741824) (hq:q.l.length≤1073741824):r_Join_8 p q (p.l.length+q.l.length+1) ≠ .out:=by
 unfold r_Join_8
 simp only [Bool.cond_eq_ite]
 repeat' split
 all_goals simp only [decide_eq_true_eq,beq_iff_eq] at *
 all_goals first | (intro h; cases h; done) | (exact r_Join_ne' p q hp hq _ _ _ _ (by omega) (by omega) (by omega) (by omega) (by omega)) | (exfalso; omega)

def r_Join (J:GS Sn→GS Sn) (l:GS Sn):(GS Sn) :=
 bif decide (((l.l.length:Nat):Int) < 2) then
  l
 else
  match r_Join_8 (J (cutG l 0 (l.l.length / 2))) (J (cutG l (l.l.length / 2) l.l.length)) ((J (cutG l 0 (l.l.length / 2))).l.length+(J (cutG l (l.l.length / 2) l.l.length)).l.length+1) with
  | .x0 yl yp yu =>
   GS.some yl
  | .x1 =>
   GS.nil
  | .out =>
   default

def r_Join_o1 (l:GS Sn) (J:GS Sn→GS Sn):List Ora:=[.rw 11 (I ((l.l.length:Nat):Int)),.dec false,.rw 16 (I ((l.l.length:Nat):Int)),.rw 17 (I ((l.l.length / 2:Nat):Int)),.op (some 18) ⟨.sl ((cutG l 0 (l.l.length / 2)).nl) (((cutG l 0 (l.l.length / 2)).l).map Sn.D) (zsl ((cutG l 0 (l.l.length / 2)).nl) 2) none,[],[],0⟩,.pure (.sl ((J (cutG l 0 (l.l.length / 2))).nl) (((J (cutG l 0 (l.l.length / 2))).l).map Sn.D) (zsl ((J (cutG l 0 (l.l.length / 2))).nl) 2) none),.rw 22 (I ((l.l.length:Nat):Int)),.rw 23 (I ((l.l.length / 2:Nat):Int)),.op (some 24) ⟨.sl ((cutG l (l.l.length / 2) l.l.length).nl) (((cutG l (l.l.length / 2) l.l.length).l).map Sn.D) (zsl ((cutG l (l.l.length / 2) l.l.length).nl) 2) none,[],[],0⟩,.pure (.sl ((J (cutG l (l.l.length / 2) l.l.length)).nl) (((J (cutG l (l.l.length / 2) l.l.length)).l).map Sn.D) (zsl ((J (cutG l (l.l.length / 2) l.l.length)).nl) 2) none)]

def sd20300 (l:GS Sn) (J:GS Sn→GS Sn) (yl:List Sn) (yp:Int) (yu:Int):St:=⟨107,[(35,B false),(34,B false),(33,I (((J (cutG l (l.l.length / 2) l.l.length)).l.length:Nat):Int)),(32,.sl ((J (cutG l (l.l.length / 2) l.l.length)).nl) (((J (cutG l (l.l.length / 2) l.l.length)).l).map Sn.D) (zsl ((J (cutG l (l.l.length / 2) l.l.length)).nl) 2) none),(31,I yu),(30,B false),(29,B false),(28,I (((J (cutG l 0 (l.l.length / 2))).l.length:Nat):Int)),(27,.sl ((J (cutG l 0 (l.l.length / 2))).nl) (((J (cutG l 0 (l.l.length / 2))).l).map Sn.D) (zsl ((J (cutG l 0 (l.l.length / 2))).nl) 2) none),(26,I yp),(3,.sl ((J (cutG l 0 (l.l.length / 2))).nl) (((J (cutG l 0 (l.l.length / 2))).l).map Sn.D) (zsl ((J (cutG l 0 (l.l.length / 2))).nl) 2) none),(4,.sl ((J (cutG l (l.l.length / 2) l.l.length)).nl) (((J (cutG l (l.l.length / 2) l.l.length)).l).map Sn.D) (zsl ((J (cutG l (l.l.length / 2) l.l.length)).nl) 2) none),(5,.lsl 0 0 yl.length 2 none),(6,I yp),(7,I yu)],[(0,⟨yl.map Sn.D,2,false⟩)],1,0⟩

def sd20301 (l:GS Sn) (J:GS Sn→GS Sn):St:=⟨107,[(35,B false),(34,B false),(33,I (((J (cutG l (l.l.length / 2) l.l.length)).l.length:Nat):Int)),(32,.sl ((J (cutG l (l.l.length / 2) l.l.length)).nl) (((J (cutG l (l.l.length / 2) l.l.length)).l).map Sn.D) (zsl ((J (cutG l (l.l.length / 2) l.l.length)).nl) 2) none),(31,I 0),(30,B false),(29,B false),(28,I (((J (cutG l 0 (l.l.length / 2))).l.length:Nat):Int)),(27,.sl ((J (cutG l 0 (l.l.length / 2))).nl) (((J (cutG l 0 (l.l.length / 2))).l).map Sn.D) (zsl ((J (cutG l 0 (l.l.length / 2))).nl) 2) none),(26,I 0),(3,.sl ((J (cutG l 0 (l.l.length / 2))).nl) (((J (cutG l 0 (l.l.length / 2))).l).map Sn.D) (zsl ((J (cutG l 0 (l.l.length / 2))).nl) 2) none),(4,.sl ((J (cutG l (l.l.length / 2) l.l.length)).nl) (((J (cutG l (l.l.length / 2) l.l.length)).l).map Sn.D) (zsl ((J (cutG l (l.l.length / 2) l.l.length)).nl) 2) none),(5,.sl true [] 0 none),(6,I 0),(7,I 0)],[],0,0⟩

theorem T_r_Join (J:GS Sn→GS Sn) (l:GS Sn) (hL:l.l.length≤1073741824) (hJ:∀ x:GS Sn,x.l.length < l.l.length→(∀ s∈x.l,s∈l.l)→(lim cfg).pure 75 [GS.D Sn.D 2 x]=some (GS.D Sn.D 2 (J x))) (hJl:∀ x:GS Sn,(J x).l.length≤x.l.length):(lim cfg).pure 75 [GS.D Sn.D 2 l]=some (GS.D Sn.D 2 (r_Join J l)):=by
 unfold r_Join
 cases h1:decide (((l.l.length:Nat):Int) < 2) with
 | true =>
  have g1:=of_decide_eq_true h1
  exact zk [.rw 11 (I ((l.l.length:Nat):Int)),.dec true] (Ai h1 (Ai (zj Sn.D l) trivial)) (by kernel_rfl)
 | false =>
  have g1:=of_decide_eq_false h1
  have p1:=(half_rw (x:=l.l.length) (by omega))
  have p2:=(slice_hi (C:=cfg) (objs:=[]) (t:=22) (f:=Sn.D) (sz:=2) (nxt:=0) (s:=l) (k:=l.l.length / 2) rfl rfl rfl rfl (by omega) (by omega))
  have p3:=(hJ (cutG l 0 (l.l.length / 2)) (by simp only [zY,zV,GS.some_l,List.length_set,List.length_append,List.length_cons,List.length_nil] at * <;> first | with_reducible assumption | omega) (cut_sub _ _ _))
  have p4:=(half_rw (x:=l.l.length) (by omega))
  have p5:=(slice_lo (C:=cfg) (objs:=[]) (t:=22) (f:=Sn.D) (sz:=2) (nxt:=0) (s:=l) (k:=l.l.length / 2) rfl rfl rfl rfl (by omega) (by omega))
  have p6:=(hJ (cutG l (l.l.length / 2) l.l.length) (by simp only [zY,zV,GS.some_l,List.length_set,List.length_append,List.length_cons,List.length_nil] at * <;> first | with_reducible assumption | omega) (cut_sub _ _ _))
  cases h42:r_Join_8 (J (cutG l 0 (l.l.length / 2))) (J (cutG l (l.l.length / 2) l.l.length)) ((J (cutG l 0 (l.l.length / 2))).l.length+(J (cutG l (l.l.length / 2) l.l.length)).l.length+1) with
  | x0 yl yp yu =>
   try dsimp only
   have hv_h42:=ivt_r_Join_8 (J (cutG l 0 (l.l.length / 2))) (J (cutG l (l.l.length / 2) l.l.length)) ((J (cutG l 0 (l.l.length / 2))).l.length+(J (cutG l (l.l.length / 2) l.l.length)).l.length+1) (r_Join_ne _ _ (Nat.le_trans (hJl _) (by rw [zV]; omega)) (Nat.le_trans (hJl _) (by rw [zV]; omega))) (by exact Nat.le_trans (hJl _) (by rw [zV]; omega)) (by exact Nat.le_trans (hJl _) (by rw [zV]; omega))
   rw [h42] at hv_h42
   obtain ⟨hv_h42_0,hv_h42_1,hv_h42_2⟩:=hv_h42
   try dsimp only [iv_r_Join_8] at hv_h42_0
   try dsimp only [iv_r_Join_8] at hv_h42_1
   try dsimp only [iv_r_Join_8] at hv_h42_2
   exact po_pureS ((r_Join_o1 l J)++[.loop (.exit 0) (sd20300 l J yl yp yu)]) [(0,.sl false (yl.map Sn.D) 2 none,[0])] (Ai (snap_row (gO:=zp [(0,⟨yl.map Sn.D,2,false⟩)]) (o:=0) (len:=yl.length) (cap:=none) (fz:=false) z6 yl (by kernel_rfl) (by omega)) (Ai (zZ (q:=lr_r_Join_8 (J (cutG l 0 (l.l.length / 2))) (J (cutG l (l.l.length / 2) l.l.length))) (lp_r_Join_8 (J (cutG l 0 (l.l.length / 2))) (J (cutG l (l.l.length / 2) l.l.length)) ((J (cutG l 0 (l.l.length / 2))).l.length+(J (cutG l (l.l.length / 2) l.l.length)).l.length+1) (r_Join_ne _ _ (Nat.le_trans (hJl _) (by rw [zV]; omega)) (Nat.le_trans (hJl _) (by rw [zV]; omega))) (by exact Nat.le_trans (hJl _) (by rw [zV]; omega)) (by exact Nat.le_trans (hJl _) (by rw [zV]; omega))) h42) (Ai p6 (Ai p5 (Ai p4 (Ai (zj Sn.D l) (Ai p3 (Ai p2 (Ai p1 (Ai (zj Sn.D l) (Ai h1 (Ai (zj Sn.D l) trivial)))))))))))) (by kernel_rfl)
  | x1 =>
   try dsimp only
   exact zk ((r_Join_o1 l J)++[.loop (.exit 0) (sd20301 l J)]) (Ai (zZ (q:=lr_r_Join_8 (J (cutG l 0 (l.l.length / 2))) (J (cutG l (l.l.length / 2) l.l.length))) (lp_r_Join_8 (J (cutG l 0 (l.l.length / 2))) (J (cutG l (l.l.length / 2) l.l.length)) ((J (cutG l 0 (l.l.length / 2))).l.length+(J (cutG l (l.l.length / 2) l.l.length)).l.length+1) (r_Join_ne _ _ (Nat.le_trans (hJl _) (by rw [zV]; omega)) (Nat.le_trans (hJl _) (by rw [zV]; omega))) (by exact Nat.le_trans (hJl _) (by rw [zV]; omega)) (by exact Nat.le_trans (hJl _) (by rw [zV]; omega))) h42) (Ai p6 (Ai p5 (Ai p4 (Ai (zj Sn.D l) (Ai p3 (Ai p2 (Ai p1 (Ai (zj Sn.D l) (Ai h1 (Ai (zj Sn.D l) trivial))))))))))) (by kernel_rfl)
  | out =>
   exact absurd h42 ((r_Join_ne _ _ (Nat.le_trans (hJl _) (by rw [zV]; omega)) (Nat.le_trans (hJl _) (by rw [zV]; omega))))
end Go.VS

namespace Go.VS
open Go Go.Proofs
set_option maxHeartbeats 0
set_option linter.unusedSimpArgs false
set_option linter.unusedVariables false
end Go.VS

namespace Go.VS
open Go
set_option maxHeartbeats 0
set_option linter.unusedSimpArgs false
set_option linter.unusedVariables false
theorem getD_last {v:List Sn} {c:Sn}:(v++[c]).getD v.length default=c:=by
 rw [List.getD_eq_getElem?_getD,List.getElem?_append_right (Nat.le_refl _)]; simp
theorem set_last {v:List Sn} {c d:Sn}:(v++[c]).set v.length d=v++[d]:=by
 rw [List.set_append_right _ _ (Nat.le_refl _)]; simp
theorem len_last {v:List Sn} {c:Sn}:w64 ((((v++[c]).length:Nat):Int) - 1)=((v.length:Nat):Int) ∨ 9223372036854775807 < v.length:=by
 by_cases h:9223372036854775807 < v.length
 ·exact .inr h
 ·left
  simp only [List.length_append,List.length_cons,List.length_nil]
  rw [y7 (by omega) (by omega)]; omega
def ArL (l:List Sn):Prop:=∀ s∈l,Ar s.lo∧Ar s.hi

theorem ranges_gathered_4p1_ok:∀ (l:List Sn) (i:Nat) (v:List Sn) (c:Sn),ArL l→Ar c.hi→v.length+l.length≤1099511627776→zR l i (v++[c])=.x0 (v++jn c l)
 | [],i,v,c,_,_,_=>rfl
 | x::l,i,v,c,h,hc,hv=>by
  have hx:=h x List.mem_cons_self
  have h':ArL l:=fun t ht=>h t (List.mem_cons_of_mem _ ht)
  simp only [List.length_cons] at hv
  unfold zR jn
  rw [area_iff.2 hx.1,area_iff.2 hx.2]
  have hl:w64 ((((v++[c]).length:Nat):Int) - 1)=((v.length:Nat):Int):=by
   rcases len_last (v:=v) (c:=c) with e | e
   ·exact e
   ·omega
  have hp:decide ((((v++[c]).length:Nat):Int) > 0)=true:=decide_eq_true (by simp only [List.length_append,List.length_cons,List.length_nil]; omega)
  rw [hl,hp,Int.toNat_natCast,getD_last,set_last]
  unfold Ar at hc
  have hx2:=hx.2
  unfold Ar at hx2
  rw [y7 (n:=c.hi+1) (by omega) (by omega),imax_eq]
  by_cases hle:x.lo≤c.hi+1
  ·rw [decide_eq_true hle,if_pos hle]
   exact ranges_gathered_4p1_ok l (i+1) v ⟨c.lo,max c.hi x.hi⟩ h' (by unfold Ar; simp only; omega) (by omega)
  ·rw [decide_eq_false hle,if_neg hle]
   have:=ranges_gathered_4p1_ok l (i+1) (v++[c]) x h' hx.2 (by simp only [List.length_append,List.length_cons,List.length_nil]; omega)
   simp only [cond_true,cond_false]
   rw [this,List.append_assoc]; rfl
def ranges_gathered_4p1_er:LR_ranges_gathered_4p1→Bool
 | .x1 _ _ _=>true
 | .x2 _ _ _=>true
 | .x4 _ _=>true
 | .x5 _ _=>true
 | _=>false
theorem ranges_gathered_4p1_bad:∀ (l:List Sn) (i:Nat) (v:List Sn),¬ ArL l→ranges_gathered_4p1_er (zR l i v)=true
 | [],i,v,h=>absurd (fun s hs=>by cases hs) h
 | x::l,i,v,h=>by
  unfold zR
  cases h1:zh x.lo with
  | false=>rfl
  | true =>
   cases h2:zh x.hi with
   | false=>rfl
   | true =>
    have h':¬ ArL l:=fun k=>h fun s hs=>by
     rcases List.mem_cons.1 hs with rfl | hs
     ·exact ⟨area_iff.1 h1,area_iff.1 h2⟩
     ·exact k s hs
    have ih:=fun v=>ranges_gathered_4p1_bad l (i+1) v h'
    simp only [cond_true]
    cases decide (((v.length:Nat):Int) > 0) with
    | false=>exact ih _
    | true =>
     simp only [cond_true]
     cases decide (x.lo≤w64 ((v.getD ((w64 (((v.length:Nat):Int) - 1)).toNat) default).hi+1)) <;> exact ih _
theorem ranges_gathered_4p1_at {l:List Sn} (hne:l ≠ []) (hl:l.length≤1099511627776):(ArL l∧zQ (zq zo l) 0=.x0 (can zo l)) ∨ (¬ ArL l∧ranges_gathered_4p1_er (zQ (zq zo l) 0)=true):=by
 have hp:=srtG_perm gcmp_lo l
 have hlen:=srtG_len gcmp_lo l
 have har:ArL (zq zo l)↔ArL l:=⟨fun h s hs=>h s (hp.mem_iff.2 hs),fun h s hs=>h s (hp.mem_iff.1 hs)⟩
 rw [← har]
 unfold can
 have hne':zq zo l ≠ []:=fun h=>hne (by rw [h] at hp; exact List.nil_perm.1 hp)
 generalize zq zo l=q at *
 cases q with
 | nil=>exact absurd rfl hne'
 | cons c q =>
  simp only [List.length_cons] at hlen
  unfold zQ jnL
  dsimp only
  by_cases hc:Ar c.lo∧Ar c.hi
  ·rw [area_iff.2 hc.1,area_iff.2 hc.2]
   by_cases hq:ArL q
   ·left
    refine ⟨fun s hs=>?_,?_⟩
    ·rcases List.mem_cons.1 hs with rfl | hs
     ·exact hc
     ·exact hq s hs
    ·exact ranges_gathered_4p1_ok q 1 [] c hq hc.2 (by simp; omega)
   ·right
    exact ⟨fun h=>hq fun s hs=>h s (List.mem_cons_of_mem _ hs),ranges_gathered_4p1_bad q 1 [c] hq⟩
  ·right
   refine ⟨fun h=>hc (h c List.mem_cons_self),?_⟩
   cases h1:zh c.lo with
   | false=>rfl
   | true =>
    cases h2:zh c.hi with
    | false=>rfl
    | true=>exact absurd ⟨area_iff.1 h1,area_iff.1 h2⟩ hc

end Go.VS

namespace Go.VS
open Go
set_option maxHeartbeats 0
theorem flat_cons_emp {α:Type} {f:α→List Sn} {x:α} {l:List α} (h:(f x).isEmpty=true):(x::l).flatMap f=l.flatMap f:=by
 have:f x=[]:=by simpa using h
 rw [List.flatMap_cons,this]; rfl

end Go.VS

namespace Go.VS
open Go
set_option maxHeartbeats 0
def GR (l:List Sn) (res:GS Sn × Int):Prop:=(ArL l∧(can zo l).length≤64∧res.1.l=can zo l∧res.2=0) ∨ ((¬ ArL l ∨ 64 < (can zo l).length)∧res=(GS.nil,2))
theorem can_nil:can zo []=[]:=by
 have:zq zo []=[]:=List.length_eq_zero_iff.1 (by rw [srtG_len gcmp_lo]; rfl)
 unfold can; rw [this]; rfl
theorem GR_nil:GR [] (GS.nil,0):=.inl ⟨(fun s hs=>by cases hs),by rw [can_nil]; simp,by rw [can_nil]; rfl,rfl⟩
theorem GR_end {l:List Sn} (h:ArL l):GR l (bif decide ((((can zo l).length:Nat):Int) > 64) then (GS.nil,2) else (GS.some (can zo l),0)):=by
 cases hd:decide ((((can zo l).length:Nat):Int) > 64) with
 | true=>have:=of_decide_eq_true hd; exact .inr ⟨.inr (by omega),rfl⟩
 | false=>have:=of_decide_eq_false hd; exact .inl ⟨h,by omega,rfl,rfl⟩
def Res (S:Int→Prop) (res:GS Sn × Int):Prop:=(res.2=0∧Ok res.1.l∧Rg S res.1.l) ∨ res=(GS.nil,2)
theorem GR.res {l:List Sn} {res:GS Sn × Int} (hl:∀ s∈l,s.lo≤s.hi) (h:GR l res):Res (In l) res:=by
 rcases h with ⟨h1,h2,h3,h4⟩ | ⟨_,h⟩
 ·left
  have k:=can_rg gcmp_lo hl
  rw [h3]
  refine ⟨h4,⟨k.1,cn_bd k.1 fun x hx=>?_,h2⟩,k⟩
  obtain ⟨s,hs,a,b⟩:=(k.2 x).1 hx
  have:=h1 s hs
  unfold Ar at this
  omega
 ·exact .inr h
theorem Res.congr {S T:Int→Prop} {res:GS Sn × Int} (h:Res S res) (e:∀ x,S x↔T x):Res T res:=h.imp (fun ⟨a,b,c⟩=>⟨a,b,c.congr e⟩) id

end Go.VS

