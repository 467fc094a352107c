/- Nothing of a statement is proved in this text alone: it is part 5 of the proof's own tools, an evaluator of the code over deep values, its soundness, and what it makes of this seat's functions. Conditions: none beyond the statement's own. -/
import Derived.Test.YtmdmclbpnkdimaaGreatDoorVsRCProd4
set_option linter.unusedSimpArgs false
set_option linter.unusedVariables false
set_option maxHeartbeats 0
namespace Go.VS
open List (length_set length_append length_cons length_nil)
open Go Go.Proofs
theorem quo_op {C:Cfg} {t:TypeId} {cst:Bool} {nxt:Nat} {a b:Int} (h:b≠0):justO nxt (binD C t cst .quo (I a) (I b))=Option.some ⟨I (w64 (a.tdiv b)),[],[],nxt⟩:=by
 simp [binD,binVal,binInt,intOp,justO,h]

def zH (k:Sn) (least:Int):Bool :=
 bif decide (least≤k.lo) then
  bif decide (k.lo≤k.hi) then
   bif decide (k.hi≤1000) then
    true
   else
    false
  else
   false
 else
  false

theorem zm (k:Sn) (least:Int):(lim cfg).pure 68 [Sn.D k,I least]=some (B (zH k least)):=by
 unfold zH
 cases h1:decide (least≤k.lo) with
 |true =>
  have g1:=of_decide_eq_true h1
  cases h2:decide (k.lo≤k.hi) with
  |true =>
   have g2:=of_decide_eq_true h2
   cases h3:decide (k.hi≤1000) with
   |true =>
    have g3:=of_decide_eq_true h3
    exact zl [.dec true,.dec true,.dec true] (Ai h3 (Ai h2 (Ai h1 trivial))) (by kernel_rfl)
   |false =>
    have g3:=of_decide_eq_false h3
    exact zl [.dec true,.dec true,.dec false] (Ai h3 (Ai h2 (Ai h1 trivial))) (by kernel_rfl)
  |false =>
   have g2:=of_decide_eq_false h2
   exact zl [.dec true,.dec false] (Ai h2 (Ai h1 trivial)) (by kernel_rfl)
 |false =>
  have g1:=of_decide_eq_false h1
  exact zl [.dec false] (Ai h1 trivial) (by kernel_rfl)

def zd (a:Int) (b:Int):Int :=
 bif decide ((a.tmod b) < 0) then
  w64 ((w64 (a.tdiv b)) - 1)
 else
  w64 (a.tdiv b)

theorem T_ranges_down (a:Int) (b:Int) (hb:b≠0):(lim cfg).pure 78 [I a,I b]=some (I (zd a b)):=by
 unfold zd
 cases h1:decide ((a.tmod b) < 0) with
 |true =>
  have g1:=of_decide_eq_true h1
  exact zl [.op (some 8) ⟨I (w64 (a.tdiv b)),[],[],0⟩,.op (some 11) ⟨I (a.tmod b),[],[],0⟩,.dec true] (Ai h1 (Ai (rem_op (C:=cfg) (t:=3) (cst:=false) (nxt:=0) (a:=a) (b:=b) (by omega)) (Ai (quo_op (C:=cfg) (t:=3) (cst:=false) (nxt:=0) (a:=a) (b:=b) (by omega)) trivial))) (by kernel_rfl)
 |false =>
  have g1:=of_decide_eq_false h1
  exact zl [.op (some 8) ⟨I (w64 (a.tdiv b)),[],[],0⟩,.op (some 11) ⟨I (a.tmod b),[],[],0⟩,.dec false] (Ai h1 (Ai (rem_op (C:=cfg) (t:=3) (cst:=false) (nxt:=0) (a:=a) (b:=b) (by omega)) (Ai (quo_op (C:=cfg) (t:=3) (cst:=false) (nxt:=0) (a:=a) (b:=b) (by omega)) trivial))) (by kernel_rfl)

def sd40000 (ν0 ν1 ν2 ν3 ν4:Nat) (μ0:List Sn) (μ1:Int) (μ2:Sn) (μ3:Sn):St:=⟨54,[(6,.lsl ν0 0 ((μ0++[(⟨w64 (μ1 * μ2.lo),w64 (μ3.hi * μ2.hi)⟩:Sn)]).length) 2 none),(37,.lsl ν0 0 ((μ0++[(⟨w64 (μ1 * μ2.lo),w64 (μ3.hi * μ2.hi)⟩:Sn)]).length) 2 none),(36,.lsl ν1 0 1 2 (some 1)),(35,.agg [I (w64 (μ1 * μ2.lo)),I (w64 (μ3.hi * μ2.hi))]),(34,I (w64 (μ3.hi * μ2.hi))),(33,I μ2.hi),(32,.lref ν2 0 2 1),(31,I μ3.hi),(30,I (w64 (μ1 * μ2.lo))),(29,I μ2.lo),(28,.lref ν2 0 2 0),(27,I μ1),(26,.lsl ν3 0 μ0.length 2 none),(25,B true),(24,I (w64 (μ2.lo - 1))),(23,I μ2.lo),(22,.lref ν2 0 2 0),(21,I (w64 (μ1 * (w64 (μ2.hi - μ2.lo))))),(20,I (w64 (μ2.hi - μ2.lo))),(19,I μ2.lo),(18,.lref ν2 0 2 0),(17,I μ2.hi),(16,.lref ν2 0 2 1),(15,I μ1),(12,B true),(11,I μ3.hi),(10,I μ1),(1,I μ3.hi),(5,.lref ν2 0 2 0),(7,.lsl ν3 0 μ0.length 2 none),(8,I μ1)],[(ν2,⟨[.agg [I μ2.lo,I μ2.hi]],2,false⟩),(ν1,⟨[.agg [I (w64 (μ1 * μ2.lo)),I (w64 (μ3.hi * μ2.hi))]],2,false⟩),(ν0,⟨(μ0++[(⟨w64 (μ1 * μ2.lo),w64 (μ3.hi * μ2.hi)⟩:Sn)]).map Sn.D,2,false⟩)],ν4,ν2⟩

def sd40001 (ν0 ν1 ν2 ν3 ν4:Nat) (μ0:List Sn) (μ1:Int) (μ2:Sn) (μ3:Sn):St:=⟨54,[(52,B true),(51,I (((μ0++[(⟨w64 (μ1 * μ2.lo),w64 (μ1 * μ2.hi)⟩:Sn)]).length:Nat):Int)),(50,.lsl ν0 0 ((μ0++[(⟨w64 (μ1 * μ2.lo),w64 (μ1 * μ2.hi)⟩:Sn)]).length) 2 none),(7,.lsl ν0 0 ((μ0++[(⟨w64 (μ1 * μ2.lo),w64 (μ1 * μ2.hi)⟩:Sn)]).length) 2 none),(49,.lsl ν0 0 ((μ0++[(⟨w64 (μ1 * μ2.lo),w64 (μ1 * μ2.hi)⟩:Sn)]).length) 2 none),(48,.lsl ν1 0 1 2 (some 1)),(47,.agg [I (w64 (μ1 * μ2.lo)),I (w64 (μ1 * μ2.hi))]),(46,I (w64 (μ1 * μ2.hi))),(45,I μ2.hi),(44,.lref ν2 0 2 1),(43,I μ1),(42,I (w64 (μ1 * μ2.lo))),(41,I μ2.lo),(40,.lref ν2 0 2 0),(39,I μ1),(38,.lsl ν3 0 μ0.length 2 none),(25,B false),(24,I (w64 (μ2.lo - 1))),(23,I μ2.lo),(22,.lref ν2 0 2 0),(21,I (w64 (μ1 * (w64 (μ2.hi - μ2.lo))))),(20,I (w64 (μ2.hi - μ2.lo))),(19,I μ2.lo),(18,.lref ν2 0 2 0),(17,I μ2.hi),(16,.lref ν2 0 2 1),(15,I μ1),(12,B true),(11,I μ3.hi),(10,I μ1),(1,I μ3.hi),(5,.lref ν2 0 2 0),(7,.lsl ν3 0 μ0.length 2 none),(8,I μ1)],[(ν2,⟨[.agg [I μ2.lo,I μ2.hi]],2,false⟩),(ν1,⟨[.agg [I (w64 (μ1 * μ2.lo)),I (w64 (μ1 * μ2.hi))]],2,false⟩),(ν0,⟨(μ0++[(⟨w64 (μ1 * μ2.lo),w64 (μ1 * μ2.hi)⟩:Sn)]).map Sn.D,2,false⟩)],ν4,ν2⟩

def sd40002 (ν0 ν1 ν2:Nat) (μ0:Sn) (μ1:Int) (μ2:List Sn) (μ3:Sn):St:=⟨54,[(12,B false),(11,I μ0.hi),(10,I μ1),(1,I μ0.hi),(5,.lref ν0 0 2 0),(7,.lsl ν1 0 μ2.length 2 none),(8,I μ1)],[(ν0,⟨[.agg [I μ3.lo,I μ3.hi]],2,false⟩),(ν1,⟨μ2.map Sn.D,2,false⟩)],ν2,ν0⟩

def sd40003 (ν0 ν1 ν2 ν3:Nat) (μ0:Int) (μ1:Sn) (μ2:Sn):St:=⟨54,[(6,.lsl ν0 0 1 2 none),(37,.lsl ν0 0 1 2 none),(36,.lsl ν1 0 1 2 (some 1)),(35,.agg [I (w64 (μ0 * μ1.lo)),I (w64 (μ2.hi * μ1.hi))]),(34,I (w64 (μ2.hi * μ1.hi))),(33,I μ1.hi),(32,.lref ν2 0 2 1),(31,I μ2.hi),(30,I (w64 (μ0 * μ1.lo))),(29,I μ1.lo),(28,.lref ν2 0 2 0),(27,I μ0),(26,.sl true [] 0 none),(25,B true),(24,I (w64 (μ1.lo - 1))),(23,I μ1.lo),(22,.lref ν2 0 2 0),(21,I (w64 (μ0 * (w64 (μ1.hi - μ1.lo))))),(20,I (w64 (μ1.hi - μ1.lo))),(19,I μ1.lo),(18,.lref ν2 0 2 0),(17,I μ1.hi),(16,.lref ν2 0 2 1),(15,I μ0),(12,B true),(11,I μ2.hi),(10,I μ0),(1,I μ2.hi),(5,.lref ν2 0 2 0),(7,.sl true [] 0 none),(8,I μ0)],[(ν2,⟨[.agg [I μ1.lo,I μ1.hi]],2,false⟩),(ν1,⟨[.agg [I (w64 (μ0 * μ1.lo)),I (w64 (μ2.hi * μ1.hi))]],2,false⟩),(ν0,⟨[.agg [I (w64 (μ0 * μ1.lo)),I (w64 (μ2.hi * μ1.hi))]],2,false⟩)],ν3,ν2⟩

def sd40004 (ν0 ν1:Nat) (μ0:Sn) (μ1:Int) (μ2:Sn):St:=⟨54,[(12,B false),(11,I μ0.hi),(10,I μ1),(1,I μ0.hi),(5,.lref ν0 0 2 0),(7,.sl true [] 0 none),(8,I μ1)],[(ν0,⟨[.agg [I μ2.lo,I μ2.hi]],2,false⟩)],ν1,ν0⟩

noncomputable def lp72_3:Code:=subC [1,1,0,1,0,0] (bodyC Tryz.f72)

def sd40005 (ν0 ν1 ν2 ν3 ν4:Nat) (μ0:Int) (μ1:List Sn) (μ2:Sn) (μ3:Sn):St:=⟨54,[(8,I (w64 (μ0+1))),(14,I (w64 (μ0+1))),(13,I μ0),(52,B false),(51,I (((μ1++[(⟨w64 (μ0 * μ2.lo),w64 (μ0 * μ2.hi)⟩:Sn)]).length:Nat):Int)),(50,.lsl ν0 0 ((μ1++[(⟨w64 (μ0 * μ2.lo),w64 (μ0 * μ2.hi)⟩:Sn)]).length) 2 none),(7,.lsl ν0 0 ((μ1++[(⟨w64 (μ0 * μ2.lo),w64 (μ0 * μ2.hi)⟩:Sn)]).length) 2 none),(49,.lsl ν0 0 ((μ1++[(⟨w64 (μ0 * μ2.lo),w64 (μ0 * μ2.hi)⟩:Sn)]).length) 2 none),(48,.lsl ν1 0 1 2 (some 1)),(47,.agg [I (w64 (μ0 * μ2.lo)),I (w64 (μ0 * μ2.hi))]),(46,I (w64 (μ0 * μ2.hi))),(45,I μ2.hi),(44,.lref ν2 0 2 1),(43,I μ0),(42,I (w64 (μ0 * μ2.lo))),(41,I μ2.lo),(40,.lref ν2 0 2 0),(39,I μ0),(38,.lsl ν3 0 μ1.length 2 none),(25,B false),(24,I (w64 (μ2.lo - 1))),(23,I μ2.lo),(22,.lref ν2 0 2 0),(21,I (w64 (μ0 * (w64 (μ2.hi - μ2.lo))))),(20,I (w64 (μ2.hi - μ2.lo))),(19,I μ2.lo),(18,.lref ν2 0 2 0),(17,I μ2.hi),(16,.lref ν2 0 2 1),(15,I μ0),(12,B true),(11,I μ3.hi),(10,I μ0),(1,I μ3.hi),(5,.lref ν2 0 2 0),(7,.lsl ν3 0 μ1.length 2 none),(8,I μ0)],[(ν2,⟨[.agg [I μ2.lo,I μ2.hi]],2,false⟩),(ν1,⟨[.agg [I (w64 (μ0 * μ2.lo)),I (w64 (μ0 * μ2.hi))]],2,false⟩),(ν0,⟨(μ1++[(⟨w64 (μ0 * μ2.lo),w64 (μ0 * μ2.hi)⟩:Sn)]).map Sn.D,2,false⟩)],ν4,ν2⟩

inductive LR_ranges_products_3 where
 |x0 (yD:List Sn) (yE:Int)
 |x1 (yD:List Sn) (yE:Int)
 |x2 (yD:List Sn) (yE:Int)
 |x3
 |x4
 |out
instance:Inhabited LR_ranges_products_3:=⟨.out⟩
def yv (x:Sn) (k:Sn) (xT:Int):Nat→(List Sn)→Int→LR_ranges_products_3
 |0,_,_=>.out
 |xi+1,yD,yE =>
  bif decide (yE≤x.hi) then
   bif decide ((w64 (yE * (w64 (k.hi - k.lo)))) ≥ (w64 (k.lo - 1))) then
    .x0 yD yE
   else
    bif decide ((((yD++[(⟨w64 (yE * k.lo),w64 (yE * k.hi)⟩:Sn)]).length:Nat):Int)>2048) then
     .x1 yD yE
    else
     yv x k xT xi (yD++[(⟨w64 (yE * k.lo),w64 (yE * k.hi)⟩:Sn)]) (w64 (yE+1))
  else
   .x2 yD yE
def yp (x:Sn) (k:Sn) (xT:Int):Nat→LR_ranges_products_3
 |0=>.out
 |xi+1 =>
  bif decide (xT≤x.hi) then
   bif decide ((w64 (xT * (w64 (k.hi - k.lo)))) ≥ (w64 (k.lo - 1))) then
    .x3
   else
    yv x k xT xi [(⟨w64 (xT * k.lo),w64 (xT * k.hi)⟩:Sn)] (w64 (xT+1))
  else
   .x4
def lr_ranges_products_3 (x:Sn) (k:Sn) (xT:Int):LR_ranges_products_3→Exit × St
 |.x0 yD yE=>(.ret,(sd40000 4 3 1 2 5 yD yE k x))
 |.x1 yD yE=>((.exit 0),(sd40001 4 3 1 2 5 yD yE k x))
 |.x2 yD yE=>((.exit 0),(sd40002 1 2 3 x yE yD k))
 |.x3=>(.ret,(sd40003 3 2 1 4 xT k x))
 |.x4=>((.exit 0),(sd40004 1 2 x xT k))
 |.out=>(.normal,⟨0,[],[],0,0⟩)
def iv_ranges_products_3 (x:Sn) (k:Sn) (xT:Int):LR_ranges_products_3→Prop
 |.x0 yD yE=>(yD.length≤2048)
 |.x1 yD yE=>(yD.length≤2048)
 |.x2 yD yE=>(yD.length≤2048)
 |.x3=>True
 |.x4=>True
 |.out=>True
def ranges_products_3a_f_o1 (k:Sn) (yD:List Sn) (yE:Int):List Ora:=[.dec true,.dec false,.op (some 49) ⟨.lsl 4 0 ((yD++[(⟨w64 (yE * k.lo),w64 (yE * k.hi)⟩:Sn)]).length) 2 none,[(2,none),(4,some ⟨(yD++[(⟨w64 (yE * k.lo),w64 (yE * k.hi)⟩:Sn)]).map Sn.D,2,false⟩)],[2,3],5⟩]
theorem lp_ranges_products_3a (x:Sn) (k:Sn) (xT:Int):∀(xi:Nat) (yD:List Sn) (yE:Int) (hf3:yv x k xT xi yD yE≠.out) (hw1:yD.length≤2048),(lim cfg).loop 72 lp72_3 ⟨54,[(1,I x.hi),(5,.lref 1 0 2 0),(7,.lsl 2 0 yD.length 2 none),(8,I yE)],[(1,⟨[.agg [I k.lo,I k.hi]],2,false⟩),(2,⟨yD.map Sn.D,2,false⟩)],3,1⟩=some (lr_ranges_products_3 x k xT (yv x k xT xi yD yE)):=by
 intro xi
 induction xi with
 |zero =>
  intro yD yE hf3 hw1
  exact absurd rfl hf3
 |succ xi ih =>
  intro yD yE hf3 hw1
  unfold yv at hf3 ⊢
  revert hf3
  cases h8:decide (yE≤x.hi) with
  |true =>
   have g8:=of_decide_eq_true h8
   cases h9:decide ((w64 (yE * (w64 (k.hi - k.lo)))) ≥ (w64 (k.lo - 1))) with
   |true =>
    have g9:=of_decide_eq_true h9
    intro hf3
    exact zr [.dec true,.dec true,.op (some 37) ⟨.lsl 4 0 ((yD++[(⟨w64 (yE * k.lo),w64 (x.hi * k.hi)⟩:Sn)]).length) 2 none,[(2,none),(4,some ⟨(yD++[(⟨w64 (yE * k.lo),w64 (x.hi * k.hi)⟩:Sn)]).map Sn.D,2,false⟩)],[2,3],5⟩] (Ai (app_row (f:=Sn.D) (te:=zG) (gO:=zn [(1,⟨[.agg [I k.lo,I k.hi]],2,false⟩),(2,⟨yD.map Sn.D,2,false⟩),(3,⟨[.agg [I (w64 (yE * k.lo)),I (w64 (x.hi * k.hi))]],2,false⟩)]) (nxt:=4) (o:=2) (o2:=3) (fz:=false) z6 yD (⟨w64 (yE * k.lo),w64 (x.hi * k.hi)⟩:Sn) (by kernel_rfl) (by kernel_rfl) rfl (by kernel_rfl) (by decide) ⟨by simp only [zG,big]<;>(omega),by simp only [big]<;>(omega)⟩) (Ai h9 (Ai h8 trivial))) (by kernel_rfl)
   |false =>
    have g9:=of_decide_eq_false h9
    have p1:=(app_row (f:=Sn.D) (te:=zG) (gO:=zn [(1,⟨[.agg [I k.lo,I k.hi]],2,false⟩),(2,⟨yD.map Sn.D,2,false⟩),(3,⟨[.agg [I (w64 (yE * k.lo)),I (w64 (yE * k.hi))]],2,false⟩)]) (nxt:=4) (o:=2) (o2:=3) (fz:=false) z6 yD (⟨w64 (yE * k.lo),w64 (yE * k.hi)⟩:Sn) (by kernel_rfl) (by kernel_rfl) rfl (by kernel_rfl) (by decide) ⟨by simp only [zG,big]<;>(omega),by simp only [big]<;>(omega)⟩)
    cases h10:decide ((((yD++[(⟨w64 (yE * k.lo),w64 (yE * k.hi)⟩:Sn)]).length:Nat):Int)>2048) with
    |true =>
     have g10:=of_decide_eq_true h10
     intro hf3
     exact zr ((ranges_products_3a_f_o1 k yD yE)++[.dec true]) (Ai h10 (Ai p1 (Ai h9 (Ai h8 trivial)))) (by kernel_rfl)
    |false =>
     have g10:=of_decide_eq_false h10
     intro hf3
     exact zw (ks:=[1,5,7,8]) (st':=(sd40005 4 3 1 2 5 yE yD k x)) ((ranges_products_3a_f_o1 k yD yE)++[.dec false]) (Ai h10 (Ai p1 (Ai h9 (Ai h8 trivial)))) (by kernel_rfl) (by (simp only [sd40005,go_sem,length_set,Nat.reduceAdd,Nat.reduceEqDiff,Nat.reduceLT,Nat.reduceLeDiff,bI2,zc.idsL,zc.renL,zc.snapAll,z6.idsL,z6.renL,z6.snapAll])<;>rfl) (ih (yD++[(⟨w64 (yE * k.lo),w64 (yE * k.hi)⟩:Sn)]) (w64 (yE+1)) hf3 (by omega)) (by kernel_rfl)
  |false =>
   have g8:=of_decide_eq_false h8
   intro hf3
   exact zr [.dec false] (Ai h8 trivial) (by kernel_rfl)
theorem ivt_ranges_products_3a (x:Sn) (k:Sn) (xT:Int):∀(xi:Nat) (yD:List Sn) (yE:Int) (hf3:yv x k xT xi yD yE≠.out) (hw1:yD.length≤2048),iv_ranges_products_3 x k xT (yv x k xT xi yD yE):=by
 intro xi
 induction xi with
 |zero =>
  intro yD yE hf3 hw1
  exact absurd rfl hf3
 |succ xi ih =>
  intro yD yE hf3 hw1
  unfold yv at hf3 ⊢
  revert hf3
  cases h8:decide (yE≤x.hi) with
  |true =>
   have g8:=of_decide_eq_true h8
   cases h9:decide ((w64 (yE * (w64 (k.hi - k.lo)))) ≥ (w64 (k.lo - 1))) with
   |true =>
    have g9:=of_decide_eq_true h9
    intro hf3
    exact hw1
   |false =>
    have g9:=of_decide_eq_false h9
    cases h10:decide ((((yD++[(⟨w64 (yE * k.lo),w64 (yE * k.hi)⟩:Sn)]).length:Nat):Int)>2048) with
    |true =>
     have g10:=of_decide_eq_true h10
     intro hf3
     exact hw1
    |false =>
     have g10:=of_decide_eq_false h10
     intro hf3
     exact ih (yD++[(⟨w64 (yE * k.lo),w64 (yE * k.hi)⟩:Sn)]) (w64 (yE+1)) hf3 (by omega)
  |false =>
   have g8:=of_decide_eq_false h8
   intro hf3
   exact hw1
theorem lp_ranges_products_3 (x:Sn) (k:Sn) (xT:Int):∀(xi:Nat) (hf3:yp x k xT xi≠.out),(lim cfg).loop 72 lp72_3 ⟨54,[(1,I x.hi),(5,.lref 1 0 2 0),(7,.sl true [] 0 none),(8,I xT)],[(1,⟨[.agg [I k.lo,I k.hi]],2,false⟩)],2,1⟩=some (lr_ranges_products_3 x k xT (yp x k xT xi)):=by
 intro xi
 induction xi with
 |zero =>
  intro hf3
  exact absurd rfl hf3
 |succ xi ih =>
  intro hf3
  unfold yp at hf3 ⊢
  revert hf3
  cases h11:decide (xT≤x.hi) with
  |true =>
   have g11:=of_decide_eq_true h11
   cases h12:decide ((w64 (xT * (w64 (k.hi - k.lo)))) ≥ (w64 (k.lo - 1))) with
   |true =>
    have g12:=of_decide_eq_true h12
    intro hf3
    exact zr [.dec true,.dec true] (Ai h12 (Ai h11 trivial)) (by kernel_rfl)
   |false =>
    have g12:=of_decide_eq_false h12
    intro hf3
    exact po_turn [.dec true,.dec false,.dec false] (Ai (Eq.refl false) (Ai h12 (Ai h11 trivial))) (lp_ranges_products_3a x k xT _ [(⟨w64 (xT * k.lo),w64 (xT * k.hi)⟩:Sn)] (w64 (xT+1)) hf3 (by simp only [length_append,length_cons,length_nil] at *<;>omega)) (by kernel_rfl)
  |false =>
   have g11:=of_decide_eq_false h11
   intro hf3
   exact zr [.dec false] (Ai h11 trivial) (by kernel_rfl)
theorem ivt_ranges_products_3 (x:Sn) (k:Sn) (xT:Int):∀(xi:Nat) (hf3:yp x k xT xi≠.out),iv_ranges_products_3 x k xT (yp x k xT xi):=by
 intro xi
 induction xi with
 |zero =>
  intro hf3
  exact absurd rfl hf3
 |succ xi ih =>
  intro hf3
  unfold yp at hf3 ⊢
  revert hf3
  cases h11:decide (xT≤x.hi) with
  |true =>
   have g11:=of_decide_eq_true h11
   cases h12:decide ((w64 (xT * (w64 (k.hi - k.lo)))) ≥ (w64 (k.lo - 1))) with
   |true =>
    have g12:=of_decide_eq_true h12
    intro hf3
    exact trivial
   |false =>
    have g12:=of_decide_eq_false h12
    intro hf3
    exact ivt_ranges_products_3a x k xT _ [(⟨w64 (xT * k.lo),w64 (xT * k.hi)⟩:Sn)] (w64 (xT+1)) hf3 (by simp only [length_append,length_cons,length_nil] at *<;>omega)
  |false =>
   have g11:=of_decide_eq_false h11
   intro hf3
   exact trivial

theorem ranges_products_3_ne' (x:Sn) (k:Sn) (xT:Int):∀(n:Nat) (v:List Sn) (i:Int),2050≤v.length+n→v.length≤2048→yv x k xT n v i≠.out
 |0,v,i,h1,h2=>by omega
 |n+1,v,i,h1,h2=>by
  unfold yv
  simp only [Bool.cond_eq_ite]
  repeat' split
  all_goals simp only [decide_eq_true_eq] at *
  all_goals first|(intro h;cases h;done)|exact ranges_products_3_ne' x k xT n _ _ (by simp only [length_append,length_cons,length_nil] at *;omega) (by simp only [length_append,length_cons,length_nil] at *;omega)
theorem ranges_products_3_ne (x:Sn) (k:Sn) (xT:Int):yp x k xT 2051≠.out:=by
 unfold yp
 simp only [Bool.cond_eq_ite]
 repeat' split
 all_goals first|(intro h;cases h;done)|exact ranges_products_3_ne' x k xT 2050 _ _ (by simp) (by simp)

def sd40006 (ν0 ν1 ν2 ν3 ν4:Nat) (μ0:List Sn) (μ1:Int) (μ2:Sn) (μ3:Int):St:=⟨54,[(6,.lsl ν0 0 ((μ0++[(⟨w64 (μ1 * μ2.lo),w64 (μ3 * μ2.hi)⟩:Sn)]).length) 2 none),(37,.lsl ν0 0 ((μ0++[(⟨w64 (μ1 * μ2.lo),w64 (μ3 * μ2.hi)⟩:Sn)]).length) 2 none),(36,.lsl ν1 0 1 2 (some 1)),(35,.agg [I (w64 (μ1 * μ2.lo)),I (w64 (μ3 * μ2.hi))]),(34,I (w64 (μ3 * μ2.hi))),(33,I μ2.hi),(32,.lref ν2 0 2 1),(31,I μ3),(30,I (w64 (μ1 * μ2.lo))),(29,I μ2.lo),(28,.lref ν2 0 2 0),(27,I μ1),(26,.lsl ν3 0 μ0.length 2 none),(25,B true),(24,I (w64 (μ2.lo - 1))),(23,I μ2.lo),(22,.lref ν2 0 2 0),(21,I (w64 (μ1 * (w64 (μ2.hi - μ2.lo))))),(20,I (w64 (μ2.hi - μ2.lo))),(19,I μ2.lo),(18,.lref ν2 0 2 0),(17,I μ2.hi),(16,.lref ν2 0 2 1),(15,I μ1),(12,B true),(11,I μ3),(10,I μ1),(1,I μ3),(5,.lref ν2 0 2 0),(7,.lsl ν3 0 μ0.length 2 none),(8,I μ1)],[(ν2,⟨[.agg [I μ2.lo,I μ2.hi]],2,false⟩),(ν1,⟨[.agg [I (w64 (μ1 * μ2.lo)),I (w64 (μ3 * μ2.hi))]],2,false⟩),(ν0,⟨(μ0++[(⟨w64 (μ1 * μ2.lo),w64 (μ3 * μ2.hi)⟩:Sn)]).map Sn.D,2,false⟩)],ν4,ν2⟩

def sd40007 (ν0 ν1 ν2 ν3 ν4:Nat) (μ0:List Sn) (μ1:Int) (μ2:Sn) (μ3:Int):St:=⟨54,[(52,B true),(51,I (((μ0++[(⟨w64 (μ1 * μ2.lo),w64 (μ1 * μ2.hi)⟩:Sn)]).length:Nat):Int)),(50,.lsl ν0 0 ((μ0++[(⟨w64 (μ1 * μ2.lo),w64 (μ1 * μ2.hi)⟩:Sn)]).length) 2 none),(7,.lsl ν0 0 ((μ0++[(⟨w64 (μ1 * μ2.lo),w64 (μ1 * μ2.hi)⟩:Sn)]).length) 2 none),(49,.lsl ν0 0 ((μ0++[(⟨w64 (μ1 * μ2.lo),w64 (μ1 * μ2.hi)⟩:Sn)]).length) 2 none),(48,.lsl ν1 0 1 2 (some 1)),(47,.agg [I (w64 (μ1 * μ2.lo)),I (w64 (μ1 * μ2.hi))]),(46,I (w64 (μ1 * μ2.hi))),(45,I μ2.hi),(44,.lref ν2 0 2 1),(43,I μ1),(42,I (w64 (μ1 * μ2.lo))),(41,I μ2.lo),(40,.lref ν2 0 2 0),(39,I μ1),(38,.lsl ν3 0 μ0.length 2 none),(25,B false),(24,I (w64 (μ2.lo - 1))),(23,I μ2.lo),(22,.lref ν2 0 2 0),(21,I (w64 (μ1 * (w64 (μ2.hi - μ2.lo))))),(20,I (w64 (μ2.hi - μ2.lo))),(19,I μ2.lo),(18,.lref ν2 0 2 0),(17,I μ2.hi),(16,.lref ν2 0 2 1),(15,I μ1),(12,B true),(11,I μ3),(10,I μ1),(1,I μ3),(5,.lref ν2 0 2 0),(7,.lsl ν3 0 μ0.length 2 none),(8,I μ1)],[(ν2,⟨[.agg [I μ2.lo,I μ2.hi]],2,false⟩),(ν1,⟨[.agg [I (w64 (μ1 * μ2.lo)),I (w64 (μ1 * μ2.hi))]],2,false⟩),(ν0,⟨(μ0++[(⟨w64 (μ1 * μ2.lo),w64 (μ1 * μ2.hi)⟩:Sn)]).map Sn.D,2,false⟩)],ν4,ν2⟩

def sd40008 (ν0 ν1 ν2:Nat) (μ0:Int) (μ1:Int) (μ2:List Sn) (μ3:Sn):St:=⟨54,[(12,B false),(11,I μ0),(10,I μ1),(1,I μ0),(5,.lref ν0 0 2 0),(7,.lsl ν1 0 μ2.length 2 none),(8,I μ1)],[(ν0,⟨[.agg [I μ3.lo,I μ3.hi]],2,false⟩),(ν1,⟨μ2.map Sn.D,2,false⟩)],ν2,ν0⟩

def sd40009 (ν0 ν1 ν2 ν3:Nat) (μ0:Int) (μ1:Sn) (μ2:Int):St:=⟨54,[(6,.lsl ν0 0 1 2 none),(37,.lsl ν0 0 1 2 none),(36,.lsl ν1 0 1 2 (some 1)),(35,.agg [I (w64 (μ0 * μ1.lo)),I (w64 (μ2 * μ1.hi))]),(34,I (w64 (μ2 * μ1.hi))),(33,I μ1.hi),(32,.lref ν2 0 2 1),(31,I μ2),(30,I (w64 (μ0 * μ1.lo))),(29,I μ1.lo),(28,.lref ν2 0 2 0),(27,I μ0),(26,.sl true [] 0 none),(25,B true),(24,I (w64 (μ1.lo - 1))),(23,I μ1.lo),(22,.lref ν2 0 2 0),(21,I (w64 (μ0 * (w64 (μ1.hi - μ1.lo))))),(20,I (w64 (μ1.hi - μ1.lo))),(19,I μ1.lo),(18,.lref ν2 0 2 0),(17,I μ1.hi),(16,.lref ν2 0 2 1),(15,I μ0),(12,B true),(11,I μ2),(10,I μ0),(1,I μ2),(5,.lref ν2 0 2 0),(7,.sl true [] 0 none),(8,I μ0)],[(ν2,⟨[.agg [I μ1.lo,I μ1.hi]],2,false⟩),(ν1,⟨[.agg [I (w64 (μ0 * μ1.lo)),I (w64 (μ2 * μ1.hi))]],2,false⟩),(ν0,⟨[.agg [I (w64 (μ0 * μ1.lo)),I (w64 (μ2 * μ1.hi))]],2,false⟩)],ν3,ν2⟩

def sd40010 (ν0 ν1:Nat) (μ0:Int) (μ1:Int) (μ2:Sn):St:=⟨54,[(12,B false),(11,I μ0),(10,I μ1),(1,I μ0),(5,.lref ν0 0 2 0),(7,.sl true [] 0 none),(8,I μ1)],[(ν0,⟨[.agg [I μ2.lo,I μ2.hi]],2,false⟩)],ν1,ν0⟩

def sd40011 (ν0 ν1 ν2 ν3 ν4:Nat) (μ0:Int) (μ1:List Sn) (μ2:Sn) (μ3:Int):St:=⟨54,[(8,I (w64 (μ0+1))),(14,I (w64 (μ0+1))),(13,I μ0),(52,B false),(51,I (((μ1++[(⟨w64 (μ0 * μ2.lo),w64 (μ0 * μ2.hi)⟩:Sn)]).length:Nat):Int)),(50,.lsl ν0 0 ((μ1++[(⟨w64 (μ0 * μ2.lo),w64 (μ0 * μ2.hi)⟩:Sn)]).length) 2 none),(7,.lsl ν0 0 ((μ1++[(⟨w64 (μ0 * μ2.lo),w64 (μ0 * μ2.hi)⟩:Sn)]).length) 2 none),(49,.lsl ν0 0 ((μ1++[(⟨w64 (μ0 * μ2.lo),w64 (μ0 * μ2.hi)⟩:Sn)]).length) 2 none),(48,.lsl ν1 0 1 2 (some 1)),(47,.agg [I (w64 (μ0 * μ2.lo)),I (w64 (μ0 * μ2.hi))]),(46,I (w64 (μ0 * μ2.hi))),(45,I μ2.hi),(44,.lref ν2 0 2 1),(43,I μ0),(42,I (w64 (μ0 * μ2.lo))),(41,I μ2.lo),(40,.lref ν2 0 2 0),(39,I μ0),(38,.lsl ν3 0 μ1.length 2 none),(25,B false),(24,I (w64 (μ2.lo - 1))),(23,I μ2.lo),(22,.lref ν2 0 2 0),(21,I (w64 (μ0 * (w64 (μ2.hi - μ2.lo))))),(20,I (w64 (μ2.hi - μ2.lo))),(19,I μ2.lo),(18,.lref ν2 0 2 0),(17,I μ2.hi),(16,.lref ν2 0 2 1),(15,I μ0),(12,B true),(11,I μ3),(10,I μ0),(1,I μ3),(5,.lref ν2 0 2 0),(7,.lsl ν3 0 μ1.length 2 none),(8,I μ0)],[(ν2,⟨[.agg [I μ2.lo,I μ2.hi]],2,false⟩),(ν1,⟨[.agg [I (w64 (μ0 * μ2.lo)),I (w64 (μ0 * μ2.hi))]],2,false⟩),(ν0,⟨(μ1++[(⟨w64 (μ0 * μ2.lo),w64 (μ0 * μ2.hi)⟩:Sn)]).map Sn.D,2,false⟩)],ν4,ν2⟩

inductive LR_ranges_products_3p1 where
 |x0 (yJ:List Sn) (yI:Int)
 |x1 (yJ:List Sn) (yI:Int)
 |x2 (yJ:List Sn) (yI:Int)
 |x3
 |x4
 |out
instance:Inhabited LR_ranges_products_3p1:=⟨.out⟩
def y8 (k:Sn) (yY:Int) (xc:Int):Nat→(List Sn)→Int→LR_ranges_products_3p1
 |0,_,_=>.out
 |xq+1,yJ,yI =>
  bif decide (yI≤yY) then
   bif decide ((w64 (yI * (w64 (k.hi - k.lo)))) ≥ (w64 (k.lo - 1))) then
    .x0 yJ yI
   else
    bif decide ((((yJ++[(⟨w64 (yI * k.lo),w64 (yI * k.hi)⟩:Sn)]).length:Nat):Int)>2048) then
     .x1 yJ yI
    else
     y8 k yY xc xq (yJ++[(⟨w64 (yI * k.lo),w64 (yI * k.hi)⟩:Sn)]) (w64 (yI+1))
  else
   .x2 yJ yI
def zN (k:Sn) (yY:Int) (xc:Int):Nat→LR_ranges_products_3p1
 |0=>.out
 |xq+1 =>
  bif decide (xc≤yY) then
   bif decide ((w64 (xc * (w64 (k.hi - k.lo)))) ≥ (w64 (k.lo - 1))) then
    .x3
   else
    y8 k yY xc xq [(⟨w64 (xc * k.lo),w64 (xc * k.hi)⟩:Sn)] (w64 (xc+1))
  else
   .x4
def zW (k:Sn) (yY:Int) (xc:Int):LR_ranges_products_3p1→Exit × St
 |.x0 yJ yI=>(.ret,(sd40006 8 7 5 6 9 yJ yI k yY))
 |.x1 yJ yI=>((.exit 0),(sd40007 8 7 5 6 9 yJ yI k yY))
 |.x2 yJ yI=>((.exit 0),(sd40008 5 6 7 yY yI yJ k))
 |.x3=>(.ret,(sd40009 7 6 5 8 xc k yY))
 |.x4=>((.exit 0),(sd40010 5 6 yY xc k))
 |.out=>(.normal,⟨0,[],[],0,0⟩)
def iv_ranges_products_3p1 (k:Sn) (yY:Int) (xc:Int):LR_ranges_products_3p1→Prop
 |.x0 yJ yI=>(yJ.length≤2048)
 |.x1 yJ yI=>(yJ.length≤2048)
 |.x2 yJ yI=>(yJ.length≤2048)
 |.x3=>True
 |.x4=>True
 |.out=>True
def ranges_products_3p1a_f_o1 (k:Sn) (yJ:List Sn) (yI:Int):List Ora:=[.dec true,.dec false,.op (some 49) ⟨.lsl 8 0 ((yJ++[(⟨w64 (yI * k.lo),w64 (yI * k.hi)⟩:Sn)]).length) 2 none,[(6,none),(8,some ⟨(yJ++[(⟨w64 (yI * k.lo),w64 (yI * k.hi)⟩:Sn)]).map Sn.D,2,false⟩)],[6,7],9⟩]
theorem lp_ranges_products_3p1a (k:Sn) (yY:Int) (xc:Int):∀(xq:Nat) (yJ:List Sn) (yI:Int) (xJ:y8 k yY xc xq yJ yI≠.out) (hw1:yJ.length≤2048),(lim cfg).loop 72 lp72_3 ⟨54,[(1,I yY),(5,.lref 5 0 2 0),(7,.lsl 6 0 yJ.length 2 none),(8,I yI)],[(5,⟨[.agg [I k.lo,I k.hi]],2,false⟩),(6,⟨yJ.map Sn.D,2,false⟩)],7,5⟩=some (zW k yY xc (y8 k yY xc xq yJ yI)):=by
 intro xq
 induction xq with
 |zero =>
  intro yJ yI xJ hw1
  exact absurd rfl xJ
 |succ xq ih =>
  intro yJ yI xJ hw1
  unfold y8 at xJ ⊢
  revert xJ
  cases h21:decide (yI≤yY) with
  |true =>
   have g21:=of_decide_eq_true h21
   cases h22:decide ((w64 (yI * (w64 (k.hi - k.lo)))) ≥ (w64 (k.lo - 1))) with
   |true =>
    have g22:=of_decide_eq_true h22
    intro xJ
    exact zr [.dec true,.dec true,.op (some 37) ⟨.lsl 8 0 ((yJ++[(⟨w64 (yI * k.lo),w64 (yY * k.hi)⟩:Sn)]).length) 2 none,[(6,none),(8,some ⟨(yJ++[(⟨w64 (yI * k.lo),w64 (yY * k.hi)⟩:Sn)]).map Sn.D,2,false⟩)],[6,7],9⟩] (Ai (app_row (f:=Sn.D) (te:=zG) (gO:=zn [(5,⟨[.agg [I k.lo,I k.hi]],2,false⟩),(6,⟨yJ.map Sn.D,2,false⟩),(7,⟨[.agg [I (w64 (yI * k.lo)),I (w64 (yY * k.hi))]],2,false⟩)]) (nxt:=8) (o:=6) (o2:=7) (fz:=false) z6 yJ (⟨w64 (yI * k.lo),w64 (yY * k.hi)⟩:Sn) (by kernel_rfl) (by kernel_rfl) rfl (by kernel_rfl) (by decide) ⟨by simp only [zG,big]<;>(omega),by simp only [big]<;>(omega)⟩) (Ai h22 (Ai h21 trivial))) (by kernel_rfl)
   |false =>
    have g22:=of_decide_eq_false h22
    have p1:=(app_row (f:=Sn.D) (te:=zG) (gO:=zn [(5,⟨[.agg [I k.lo,I k.hi]],2,false⟩),(6,⟨yJ.map Sn.D,2,false⟩),(7,⟨[.agg [I (w64 (yI * k.lo)),I (w64 (yI * k.hi))]],2,false⟩)]) (nxt:=8) (o:=6) (o2:=7) (fz:=false) z6 yJ (⟨w64 (yI * k.lo),w64 (yI * k.hi)⟩:Sn) (by kernel_rfl) (by kernel_rfl) rfl (by kernel_rfl) (by decide) ⟨by simp only [zG,big]<;>(omega),by simp only [big]<;>(omega)⟩)
    cases h23:decide ((((yJ++[(⟨w64 (yI * k.lo),w64 (yI * k.hi)⟩:Sn)]).length:Nat):Int)>2048) with
    |true =>
     have g23:=of_decide_eq_true h23
     intro xJ
     exact zr ((ranges_products_3p1a_f_o1 k yJ yI)++[.dec true]) (Ai h23 (Ai p1 (Ai h22 (Ai h21 trivial)))) (by kernel_rfl)
    |false =>
     have g23:=of_decide_eq_false h23
     intro xJ
     exact zw (ks:=[1,5,7,8]) (st':=(sd40011 8 7 5 6 9 yI yJ k yY)) ((ranges_products_3p1a_f_o1 k yJ yI)++[.dec false]) (Ai h23 (Ai p1 (Ai h22 (Ai h21 trivial)))) (by kernel_rfl) (by (simp only [sd40011,go_sem,length_set,Nat.reduceAdd,Nat.reduceEqDiff,Nat.reduceLT,Nat.reduceLeDiff,bI2,zc.idsL,zc.renL,zc.snapAll,z6.idsL,z6.renL,z6.snapAll])<;>rfl) (ih (yJ++[(⟨w64 (yI * k.lo),w64 (yI * k.hi)⟩:Sn)]) (w64 (yI+1)) xJ (by omega)) (by kernel_rfl)
  |false =>
   have g21:=of_decide_eq_false h21
   intro xJ
   exact zr [.dec false] (Ai h21 trivial) (by kernel_rfl)
theorem ivt_ranges_products_3p1a (k:Sn) (yY:Int) (xc:Int):∀(xq:Nat) (yJ:List Sn) (yI:Int) (xJ:y8 k yY xc xq yJ yI≠.out) (hw1:yJ.length≤2048),iv_ranges_products_3p1 k yY xc (y8 k yY xc xq yJ yI):=by
 intro xq
 induction xq with
 |zero =>
  intro yJ yI xJ hw1
  exact absurd rfl xJ
 |succ xq ih =>
  intro yJ yI xJ hw1
  unfold y8 at xJ ⊢
  revert xJ
  cases h21:decide (yI≤yY) with
  |true =>
   have g21:=of_decide_eq_true h21
   cases h22:decide ((w64 (yI * (w64 (k.hi - k.lo)))) ≥ (w64 (k.lo - 1))) with
   |true =>
    have g22:=of_decide_eq_true h22
    intro xJ
    exact hw1
   |false =>
    have g22:=of_decide_eq_false h22
    cases h23:decide ((((yJ++[(⟨w64 (yI * k.lo),w64 (yI * k.hi)⟩:Sn)]).length:Nat):Int)>2048) with
    |true =>
     have g23:=of_decide_eq_true h23
     intro xJ
     exact hw1
    |false =>
     have g23:=of_decide_eq_false h23
     intro xJ
     exact ih (yJ++[(⟨w64 (yI * k.lo),w64 (yI * k.hi)⟩:Sn)]) (w64 (yI+1)) xJ (by omega)
  |false =>
   have g21:=of_decide_eq_false h21
   intro xJ
   exact hw1
theorem lp_ranges_products_3p1 (k:Sn) (yY:Int) (xc:Int):∀(xq:Nat) (xJ:zN k yY xc xq≠.out),(lim cfg).loop 72 lp72_3 ⟨54,[(1,I yY),(5,.lref 5 0 2 0),(7,.sl true [] 0 none),(8,I xc)],[(5,⟨[.agg [I k.lo,I k.hi]],2,false⟩)],6,5⟩=some (zW k yY xc (zN k yY xc xq)):=by
 intro xq
 induction xq with
 |zero =>
  intro xJ
  exact absurd rfl xJ
 |succ xq ih =>
  intro xJ
  unfold zN at xJ ⊢
  revert xJ
  cases h24:decide (xc≤yY) with
  |true =>
   have g24:=of_decide_eq_true h24
   cases h25:decide ((w64 (xc * (w64 (k.hi - k.lo)))) ≥ (w64 (k.lo - 1))) with
   |true =>
    have g25:=of_decide_eq_true h25
    intro xJ
    exact zr [.dec true,.dec true] (Ai h25 (Ai h24 trivial)) (by kernel_rfl)
   |false =>
    have g25:=of_decide_eq_false h25
    intro xJ
    exact po_turn [.dec true,.dec false,.dec false] (Ai (Eq.refl false) (Ai h25 (Ai h24 trivial))) (lp_ranges_products_3p1a k yY xc _ [(⟨w64 (xc * k.lo),w64 (xc * k.hi)⟩:Sn)] (w64 (xc+1)) xJ (by simp only [length_append,length_cons,length_nil] at *<;>omega)) (by kernel_rfl)
  |false =>
   have g24:=of_decide_eq_false h24
   intro xJ
   exact zr [.dec false] (Ai h24 trivial) (by kernel_rfl)
theorem ivt_ranges_products_3p1 (k:Sn) (yY:Int) (xc:Int):∀(xq:Nat) (xJ:zN k yY xc xq≠.out),iv_ranges_products_3p1 k yY xc (zN k yY xc xq):=by
 intro xq
 induction xq with
 |zero =>
  intro xJ
  exact absurd rfl xJ
 |succ xq ih =>
  intro xJ
  unfold zN at xJ ⊢
  revert xJ
  cases h24:decide (xc≤yY) with
  |true =>
   have g24:=of_decide_eq_true h24
   cases h25:decide ((w64 (xc * (w64 (k.hi - k.lo)))) ≥ (w64 (k.lo - 1))) with
   |true =>
    have g25:=of_decide_eq_true h25
    intro xJ
    exact trivial
   |false =>
    have g25:=of_decide_eq_false h25
    intro xJ
    exact ivt_ranges_products_3p1a k yY xc _ [(⟨w64 (xc * k.lo),w64 (xc * k.hi)⟩:Sn)] (w64 (xc+1)) xJ (by simp only [length_append,length_cons,length_nil] at *<;>omega)
  |false =>
   have g24:=of_decide_eq_false h24
   intro xJ
   exact trivial

theorem ranges_products_3p1_ne' (k:Sn) (yY:Int) (xc:Int):∀(n:Nat) (v:List Sn) (i:Int),2050≤v.length+n→v.length≤2048→y8 k yY xc n v i≠.out
 |0,v,i,h1,h2=>by omega
 |n+1,v,i,h1,h2=>by
  unfold y8
  simp only [Bool.cond_eq_ite]
  repeat' split
  all_goals simp only [decide_eq_true_eq] at *
  all_goals first|(intro h;cases h;done)|exact ranges_products_3p1_ne' k yY xc n _ _ (by simp only [length_append,length_cons,length_nil] at *;omega) (by simp only [length_append,length_cons,length_nil] at *;omega)
theorem zy (k:Sn) (yY:Int) (xc:Int):zN k yY xc 2051≠.out:=by
 unfold zN
 simp only [Bool.cond_eq_ite]
 repeat' split
 all_goals first|(intro h;cases h;done)|exact ranges_products_3p1_ne' k yY xc 2050 _ _ (by simp) (by simp)

def sd40013 (ν0 ν1 ν2:Nat) (μ0:List Sn) (μ1:List Sn):St:=⟨40,[(25,B false),(4,.lsl ν0 0 μ0.length 2 none),(22,.lsl ν1 0 μ1.length 2 none),(23,I ((μ1.length:Nat):Int)),(24,I ((μ1.length:Nat):Int))],[(ν0,⟨μ0.map Sn.D,2,false⟩),(ν1,⟨μ1.map Sn.D,2,false⟩)],ν2,ν0⟩

noncomputable def lp71_3:Code:=subC [1,1,0,1,0,0] (bodyC Tryz.f71)

def sd40014 (ν0 ν1 ν2 ν3 ν4 ν5:Nat) (μ0:Nat) (μ1:List Sn) (μ2:Sn) (μ3:List Sn):St:=⟨40,[(24,I ((μ0+1:Nat):Int)),(38,I ((μ0+1:Nat):Int)),(4,.lsl ν0 0 ((μ1++[(⟨w64 (0 - μ2.hi),w64 (0 - μ2.lo)⟩:Sn)]).length) 2 none),(37,.lsl ν0 0 ((μ1++[(⟨w64 (0 - μ2.hi),w64 (0 - μ2.lo)⟩:Sn)]).length) 2 none),(36,.lsl ν1 0 1 2 (some 1)),(35,.agg [I (w64 (0 - μ2.hi)),I (w64 (0 - μ2.lo))]),(34,I (w64 (0 - μ2.lo))),(33,I μ2.lo),(32,.lref ν2 0 2 0),(31,I (w64 (0 - μ2.hi))),(30,I μ2.hi),(29,.lref ν2 0 2 1),(28,.lsl ν3 0 μ1.length 2 none),(6,.lref ν2 0 2 0),(27,.agg [I μ2.lo,I μ2.hi]),(26,.lref ν4 μ0 2 0),(25,B true),(4,.lsl ν3 0 μ1.length 2 none),(22,.lsl ν4 0 μ3.length 2 none),(23,I ((μ3.length:Nat):Int)),(24,I ((μ0:Nat):Int))],[(ν4,⟨μ3.map Sn.D,2,false⟩),(ν2,⟨[.agg [I μ2.lo,I μ2.hi]],2,false⟩),(ν1,⟨[.agg [I (w64 (0 - μ2.hi)),I (w64 (0 - μ2.lo))]],2,false⟩),(ν0,⟨(μ1++[(⟨w64 (0 - μ2.hi),w64 (0 - μ2.lo)⟩:Sn)]).map Sn.D,2,false⟩)],ν5,ν3⟩

inductive LR_ranges_Times_1_3 where
 |x0 (xk:List Sn)
instance:Inhabited LR_ranges_Times_1_3:=⟨.x0 default⟩
def zz:List Sn→(List Sn)→LR_ranges_Times_1_3
 |[],xk=>.x0 xk
 |x3::xi,xk =>
  zz xi (xk++[(⟨w64 (0 - x3.hi),w64 (0 - x3.lo)⟩:Sn)])
def lr_ranges_Times_1_3 (q3_1:List Sn):LR_ranges_Times_1_3→Exit × St
 |.x0 xk=>((.exit 0),(sd40013 0 1 2 xk q3_1))
def iv_ranges_Times_1_3 (q3_1:List Sn):LR_ranges_Times_1_3→Prop
 |.x0 xk=>(xk.length≤2049+q3_1.length)
theorem lp_ranges_Times_1_3 (q3_1:List Sn):∀(xi:List Sn) (i3:Nat) (xk:List Sn) (hd3:q3_1.drop i3=xi) (hi3:i3≤q3_1.length) (hl49:q3_1.length≤2049) (hg3_v3_0:xk.length≤2049+i3) (hL3:q3_1.length≤1099511627776),(lim cfg).loop 71 lp71_3 ⟨40,[(4,.lsl 0 0 xk.length 2 none),(22,.lsl 1 0 q3_1.length 2 none),(23,I (q3_1.length:Int)),(24,I (i3:Int))],[(0,⟨xk.map Sn.D,2,false⟩),(1,⟨q3_1.map Sn.D,2,false⟩)],2,0⟩=some (lr_ranges_Times_1_3 q3_1 (zz xi xk)):=by
 intro xi
 induction xi with
 |nil =>
  intro i3 xk hd3 hi3 hl49 hg3_v3_0 hL3
  unfold zz
  obtain rfl:i3=q3_1.length:=nil_eq hd3 hi3
  exact zr [.dec false] (Ai (lt_no hd3) trivial) (by kernel_rfl)
 |cons x3 xi ih =>
  intro i3 xk hd3 hi3 hl49 hg3_v3_0 hL3
  have hlt3:=ze hd3
  unfold zz
  exact zw (ks:=[4,22,23,24]) (st':=(sd40014 4 3 2 0 1 5 i3 xk x3 q3_1)) [.dec true,.op (some 26) ⟨.lref 1 i3 2 0,[],[],2⟩,.op (some 27) ⟨.agg [I x3.lo,I x3.hi],[],[1],2⟩,.op (some 37) ⟨.lsl 4 0 ((xk++[(⟨w64 (0 - x3.hi),w64 (0 - x3.lo)⟩:Sn)]).length) 2 none,[(0,none),(4,some ⟨(xk++[(⟨w64 (0 - x3.hi),w64 (0 - x3.lo)⟩:Sn)]).map Sn.D,2,false⟩)],[0,3],5⟩,.rw 38 (I ((i3+1:Nat):Int))] (Ai (zZ (i:=i3) (by have:=ze hd3;omega)) (Ai (app_row (f:=Sn.D) (te:=zG) (gO:=zn [(0,⟨xk.map Sn.D,2,false⟩),(1,⟨q3_1.map Sn.D,2,false⟩),(2,⟨[.agg [I x3.lo,I x3.hi]],2,false⟩),(3,⟨[.agg [I (w64 (0 - x3.hi)),I (w64 (0 - x3.lo))]],2,false⟩)]) (nxt:=4) (o:=0) (o2:=3) (fz:=false) z6 xk (⟨w64 (0 - x3.hi),w64 (0 - x3.lo)⟩:Sn) (by kernel_rfl) (by kernel_rfl) rfl (by kernel_rfl) (by decide) ⟨by simp only [zG,big]<;>(omega),by simp only [big]<;>(omega)⟩) (Ai (load_row (C:=cfg) (objs:=[(0,⟨xk.map Sn.D,2,false⟩),(1,⟨q3_1.map Sn.D,2,false⟩)]) (nxt:=2) (t:=25) (ty:=zG) (o:=1) (n:=i3) (sz:=2) (sub:=0) (ob:=⟨q3_1.map Sn.D,2,false⟩) (e:=Sn.D x3) (d:=.agg [I x3.lo,I x3.hi]) (by kernel_rfl) (by kernel_rfl) rfl (row_at (f:=Sn.D) hd3) (by kernel_rfl)) (Ai (idx_row (C:=cfg) (nxt:=2) (t:=22) (ty:=ty22) (te:=zG) (e:=25) (o:=1) (len:=q3_1.length) (sz:=2) (cap:=none) (i:=(i3:Int)) (by kernel_rfl) rfl (by kernel_rfl) rfl (by omega) (by omega)) (Ai (yl hd3) trivial))))) (by kernel_rfl) (by (simp only [sd40014,go_sem,length_set,Nat.reduceAdd,Nat.reduceEqDiff,Nat.reduceLT,Nat.reduceLeDiff,bI2,zc.idsL,zc.renL,zc.snapAll,z6.idsL,z6.renL,z6.snapAll])<;>rfl) (ih (i3+1) (xk++[(⟨w64 (0 - x3.hi),w64 (0 - x3.lo)⟩:Sn)]) (zf hd3) (ze hd3) (by omega) (by simp only [length_append,length_cons,length_nil] at *<;>omega) (by omega)) (by kernel_rfl)
theorem ivt_ranges_Times_1_3 (q3_1:List Sn):∀(xi:List Sn) (i3:Nat) (xk:List Sn) (hd3:q3_1.drop i3=xi) (hi3:i3≤q3_1.length) (hl49:q3_1.length≤2049) (hg3_v3_0:xk.length≤2049+i3) (hL3:q3_1.length≤1099511627776),iv_ranges_Times_1_3 q3_1 (zz xi xk):=by
 intro xi
 induction xi with
 |nil =>
  intro i3 xk hd3 hi3 hl49 hg3_v3_0 hL3
  unfold zz
  obtain rfl:i3=q3_1.length:=nil_eq hd3 hi3
  exact hg3_v3_0
 |cons x3 xi ih =>
  intro i3 xk hd3 hi3 hl49 hg3_v3_0 hL3
  have hlt3:=ze hd3
  unfold zz
  exact ih (i3+1) (xk++[(⟨w64 (0 - x3.hi),w64 (0 - x3.lo)⟩:Sn)]) (zf hd3) (ze hd3) (by omega) (by simp only [length_append,length_cons,length_nil] at *<;>omega) (by omega)

inductive LR_ranges_products_3p2 where
 |x0 (yz:List Sn) (yO:Int)
 |x1 (yz:List Sn) (yO:Int)
 |x2 (yz:List Sn) (yO:Int)
 |x3
 |x4
 |out
instance:Inhabited LR_ranges_products_3p2:=⟨.out⟩
def y9 (k:Sn) (yU:Int) (xd:Int):Nat→(List Sn)→Int→LR_ranges_products_3p2
 |0,_,_=>.out
 |yQ+1,yz,yO =>
  bif decide (yO≤yU) then
   bif decide ((w64 (yO * (w64 (k.hi - k.lo)))) ≥ (w64 (k.lo - 1))) then
    .x0 yz yO
   else
    bif decide ((((yz++[(⟨w64 (yO * k.lo),w64 (yO * k.hi)⟩:Sn)]).length:Nat):Int)>2048) then
     .x1 yz yO
    else
     y9 k yU xd yQ (yz++[(⟨w64 (yO * k.lo),w64 (yO * k.hi)⟩:Sn)]) (w64 (yO+1))
  else
   .x2 yz yO
def y5 (k:Sn) (yU:Int) (xd:Int):Nat→LR_ranges_products_3p2
 |0=>.out
 |yQ+1 =>
  bif decide (xd≤yU) then
   bif decide ((w64 (xd * (w64 (k.hi - k.lo)))) ≥ (w64 (k.lo - 1))) then
    .x3
   else
    y9 k yU xd yQ [(⟨w64 (xd * k.lo),w64 (xd * k.hi)⟩:Sn)] (w64 (xd+1))
  else
   .x4
def lr_ranges_products_3p2 (k:Sn) (yU:Int) (xd:Int):LR_ranges_products_3p2→Exit × St
 |.x0 yz yO=>(.ret,(sd40006 6 5 3 4 7 yz yO k yU))
 |.x1 yz yO=>((.exit 0),(sd40007 6 5 3 4 7 yz yO k yU))
 |.x2 yz yO=>((.exit 0),(sd40008 3 4 5 yU yO yz k))
 |.x3=>(.ret,(sd40009 5 4 3 6 xd k yU))
 |.x4=>((.exit 0),(sd40010 3 4 yU xd k))
 |.out=>(.normal,⟨0,[],[],0,0⟩)
def iv_ranges_products_3p2 (k:Sn) (yU:Int) (xd:Int):LR_ranges_products_3p2→Prop
 |.x0 yz yO=>(yz.length≤2048)
 |.x1 yz yO=>(yz.length≤2048)
 |.x2 yz yO=>(yz.length≤2048)
 |.x3=>True
 |.x4=>True
 |.out=>True
def ranges_products_3p2a_f_o1 (k:Sn) (yz:List Sn) (yO:Int):List Ora:=[.dec true,.dec false,.op (some 49) ⟨.lsl 6 0 ((yz++[(⟨w64 (yO * k.lo),w64 (yO * k.hi)⟩:Sn)]).length) 2 none,[(4,none),(6,some ⟨(yz++[(⟨w64 (yO * k.lo),w64 (yO * k.hi)⟩:Sn)]).map Sn.D,2,false⟩)],[4,5],7⟩]
theorem lp_ranges_products_3p2a (k:Sn) (yU:Int) (xd:Int):∀(yQ:Nat) (yz:List Sn) (yO:Int) (xK:y9 k yU xd yQ yz yO≠.out) (hw1:yz.length≤2048),(lim cfg).loop 72 lp72_3 ⟨54,[(1,I yU),(5,.lref 3 0 2 0),(7,.lsl 4 0 yz.length 2 none),(8,I yO)],[(3,⟨[.agg [I k.lo,I k.hi]],2,false⟩),(4,⟨yz.map Sn.D,2,false⟩)],5,3⟩=some (lr_ranges_products_3p2 k yU xd (y9 k yU xd yQ yz yO)):=by
 intro yQ
 induction yQ with
 |zero =>
  intro yz yO xK hw1
  exact absurd rfl xK
 |succ yQ ih =>
  intro yz yO xK hw1
  unfold y9 at xK ⊢
  revert xK
  cases h41:decide (yO≤yU) with
  |true =>
   have g41:=of_decide_eq_true h41
   cases h42:decide ((w64 (yO * (w64 (k.hi - k.lo)))) ≥ (w64 (k.lo - 1))) with
   |true =>
    have g42:=of_decide_eq_true h42
    intro xK
    exact zr [.dec true,.dec true,.op (some 37) ⟨.lsl 6 0 ((yz++[(⟨w64 (yO * k.lo),w64 (yU * k.hi)⟩:Sn)]).length) 2 none,[(4,none),(6,some ⟨(yz++[(⟨w64 (yO * k.lo),w64 (yU * k.hi)⟩:Sn)]).map Sn.D,2,false⟩)],[4,5],7⟩] (Ai (app_row (f:=Sn.D) (te:=zG) (gO:=zn [(3,⟨[.agg [I k.lo,I k.hi]],2,false⟩),(4,⟨yz.map Sn.D,2,false⟩),(5,⟨[.agg [I (w64 (yO * k.lo)),I (w64 (yU * k.hi))]],2,false⟩)]) (nxt:=6) (o:=4) (o2:=5) (fz:=false) z6 yz (⟨w64 (yO * k.lo),w64 (yU * k.hi)⟩:Sn) (by kernel_rfl) (by kernel_rfl) rfl (by kernel_rfl) (by decide) ⟨by simp only [zG,big]<;>(omega),by simp only [big]<;>(omega)⟩) (Ai h42 (Ai h41 trivial))) (by kernel_rfl)
   |false =>
    have g42:=of_decide_eq_false h42
    have p1:=(app_row (f:=Sn.D) (te:=zG) (gO:=zn [(3,⟨[.agg [I k.lo,I k.hi]],2,false⟩),(4,⟨yz.map Sn.D,2,false⟩),(5,⟨[.agg [I (w64 (yO * k.lo)),I (w64 (yO * k.hi))]],2,false⟩)]) (nxt:=6) (o:=4) (o2:=5) (fz:=false) z6 yz (⟨w64 (yO * k.lo),w64 (yO * k.hi)⟩:Sn) (by kernel_rfl) (by kernel_rfl) rfl (by kernel_rfl) (by decide) ⟨by simp only [zG,big]<;>(omega),by simp only [big]<;>(omega)⟩)
    cases h43:decide ((((yz++[(⟨w64 (yO * k.lo),w64 (yO * k.hi)⟩:Sn)]).length:Nat):Int)>2048) with
    |true =>
     have g43:=of_decide_eq_true h43
     intro xK
     exact zr ((ranges_products_3p2a_f_o1 k yz yO)++[.dec true]) (Ai h43 (Ai p1 (Ai h42 (Ai h41 trivial)))) (by kernel_rfl)
    |false =>
     have g43:=of_decide_eq_false h43
     intro xK
     exact zw (ks:=[1,5,7,8]) (st':=(sd40011 6 5 3 4 7 yO yz k yU)) ((ranges_products_3p2a_f_o1 k yz yO)++[.dec false]) (Ai h43 (Ai p1 (Ai h42 (Ai h41 trivial)))) (by kernel_rfl) (by (simp only [sd40011,go_sem,length_set,Nat.reduceAdd,Nat.reduceEqDiff,Nat.reduceLT,Nat.reduceLeDiff,bI2,zc.idsL,zc.renL,zc.snapAll,z6.idsL,z6.renL,z6.snapAll])<;>rfl) (ih (yz++[(⟨w64 (yO * k.lo),w64 (yO * k.hi)⟩:Sn)]) (w64 (yO+1)) xK (by omega)) (by kernel_rfl)
  |false =>
   have g41:=of_decide_eq_false h41
   intro xK
   exact zr [.dec false] (Ai h41 trivial) (by kernel_rfl)
theorem ivt_ranges_products_3p2a (k:Sn) (yU:Int) (xd:Int):∀(yQ:Nat) (yz:List Sn) (yO:Int) (xK:y9 k yU xd yQ yz yO≠.out) (hw1:yz.length≤2048),iv_ranges_products_3p2 k yU xd (y9 k yU xd yQ yz yO):=by
 intro yQ
 induction yQ with
 |zero =>
  intro yz yO xK hw1
  exact absurd rfl xK
 |succ yQ ih =>
  intro yz yO xK hw1
  unfold y9 at xK ⊢
  revert xK
  cases h41:decide (yO≤yU) with
  |true =>
   have g41:=of_decide_eq_true h41
   cases h42:decide ((w64 (yO * (w64 (k.hi - k.lo)))) ≥ (w64 (k.lo - 1))) with
   |true =>
    have g42:=of_decide_eq_true h42
    intro xK
    exact hw1
   |false =>
    have g42:=of_decide_eq_false h42
    cases h43:decide ((((yz++[(⟨w64 (yO * k.lo),w64 (yO * k.hi)⟩:Sn)]).length:Nat):Int)>2048) with
    |true =>
     have g43:=of_decide_eq_true h43
     intro xK
     exact hw1
    |false =>
     have g43:=of_decide_eq_false h43
     intro xK
     exact ih (yz++[(⟨w64 (yO * k.lo),w64 (yO * k.hi)⟩:Sn)]) (w64 (yO+1)) xK (by omega)
  |false =>
   have g41:=of_decide_eq_false h41
   intro xK
   exact hw1
theorem lp_ranges_products_3p2 (k:Sn) (yU:Int) (xd:Int):∀(yQ:Nat) (xK:y5 k yU xd yQ≠.out),(lim cfg).loop 72 lp72_3 ⟨54,[(1,I yU),(5,.lref 3 0 2 0),(7,.sl true [] 0 none),(8,I xd)],[(3,⟨[.agg [I k.lo,I k.hi]],2,false⟩)],4,3⟩=some (lr_ranges_products_3p2 k yU xd (y5 k yU xd yQ)):=by
 intro yQ
 induction yQ with
 |zero =>
  intro xK
  exact absurd rfl xK
 |succ yQ ih =>
  intro xK
  unfold y5 at xK ⊢
  revert xK
  cases h44:decide (xd≤yU) with
  |true =>
   have g44:=of_decide_eq_true h44
   cases h45:decide ((w64 (xd * (w64 (k.hi - k.lo)))) ≥ (w64 (k.lo - 1))) with
   |true =>
    have g45:=of_decide_eq_true h45
    intro xK
    exact zr [.dec true,.dec true] (Ai h45 (Ai h44 trivial)) (by kernel_rfl)
   |false =>
    have g45:=of_decide_eq_false h45
    intro xK
    exact po_turn [.dec true,.dec false,.dec false] (Ai (Eq.refl false) (Ai h45 (Ai h44 trivial))) (lp_ranges_products_3p2a k yU xd _ [(⟨w64 (xd * k.lo),w64 (xd * k.hi)⟩:Sn)] (w64 (xd+1)) xK (by simp only [length_append,length_cons,length_nil] at *<;>omega)) (by kernel_rfl)
  |false =>
   have g44:=of_decide_eq_false h44
   intro xK
   exact zr [.dec false] (Ai h44 trivial) (by kernel_rfl)
theorem ivt_ranges_products_3p2 (k:Sn) (yU:Int) (xd:Int):∀(yQ:Nat) (xK:y5 k yU xd yQ≠.out),iv_ranges_products_3p2 k yU xd (y5 k yU xd yQ):=by
 intro yQ
 induction yQ with
 |zero =>
  intro xK
  exact absurd rfl xK
 |succ yQ ih =>
  intro xK
  unfold y5 at xK ⊢
  revert xK
  cases h44:decide (xd≤yU) with
  |true =>
   have g44:=of_decide_eq_true h44
   cases h45:decide ((w64 (xd * (w64 (k.hi - k.lo)))) ≥ (w64 (k.lo - 1))) with
   |true =>
    have g45:=of_decide_eq_true h45
    intro xK
    exact trivial
   |false =>
    have g45:=of_decide_eq_false h45
    intro xK
    exact ivt_ranges_products_3p2a k yU xd _ [(⟨w64 (xd * k.lo),w64 (xd * k.hi)⟩:Sn)] (w64 (xd+1)) xK (by simp only [length_append,length_cons,length_nil] at *<;>omega)
  |false =>
   have g44:=of_decide_eq_false h44
   intro xK
   exact trivial

theorem ranges_products_3p2_ne' (k:Sn) (yU:Int) (xd:Int):∀(n:Nat) (v:List Sn) (i:Int),2050≤v.length+n→v.length≤2048→y9 k yU xd n v i≠.out
 |0,v,i,h1,h2=>by omega
 |n+1,v,i,h1,h2=>by
  unfold y9
  simp only [Bool.cond_eq_ite]
  repeat' split
  all_goals simp only [decide_eq_true_eq] at *
  all_goals first|(intro h;cases h;done)|exact ranges_products_3p2_ne' k yU xd n _ _ (by simp only [length_append,length_cons,length_nil] at *;omega) (by simp only [length_append,length_cons,length_nil] at *;omega)
theorem yh (k:Sn) (yU:Int) (xd:Int):y5 k yU xd 2051≠.out:=by
 unfold y5
 simp only [Bool.cond_eq_ite]
 repeat' split
 all_goals first|(intro h;cases h;done)|exact ranges_products_3p2_ne' k yU xd 2050 _ _ (by simp) (by simp)

inductive LR_ranges_products_3p3 where
 |x0 (yB:List Sn) (yP:Int)
 |x1 (yB:List Sn) (yP:Int)
 |x2 (yB:List Sn) (yP:Int)
 |x3
 |x4
 |out
instance:Inhabited LR_ranges_products_3p3:=⟨.out⟩
def ya (k:Sn) (xe:Int) (xf:Int):Nat→(List Sn)→Int→LR_ranges_products_3p3
 |0,_,_=>.out
 |yR+1,yB,yP =>
  bif decide (yP≤xe) then
   bif decide ((w64 (yP * (w64 (k.hi - k.lo)))) ≥ (w64 (k.lo - 1))) then
    .x0 yB yP
   else
    bif decide ((((yB++[(⟨w64 (yP * k.lo),w64 (yP * k.hi)⟩:Sn)]).length:Nat):Int)>2048) then
     .x1 yB yP
    else
     ya k xe xf yR (yB++[(⟨w64 (yP * k.lo),w64 (yP * k.hi)⟩:Sn)]) (w64 (yP+1))
  else
   .x2 yB yP
def y6 (k:Sn) (xe:Int) (xf:Int):Nat→LR_ranges_products_3p3
 |0=>.out
 |yR+1 =>
  bif decide (xf≤xe) then
   bif decide ((w64 (xf * (w64 (k.hi - k.lo)))) ≥ (w64 (k.lo - 1))) then
    .x3
   else
    ya k xe xf yR [(⟨w64 (xf * k.lo),w64 (xf * k.hi)⟩:Sn)] (w64 (xf+1))
  else
   .x4
def lr_ranges_products_3p3 (k:Sn) (xe:Int) (xf:Int):LR_ranges_products_3p3→Exit × St
 |.x0 yB yP=>(.ret,(sd40006 7 6 4 5 8 yB yP k xe))
 |.x1 yB yP=>((.exit 0),(sd40007 7 6 4 5 8 yB yP k xe))
 |.x2 yB yP=>((.exit 0),(sd40008 4 5 6 xe yP yB k))
 |.x3=>(.ret,(sd40009 6 5 4 7 xf k xe))
 |.x4=>((.exit 0),(sd40010 4 5 xe xf k))
 |.out=>(.normal,⟨0,[],[],0,0⟩)
def iv_ranges_products_3p3 (k:Sn) (xe:Int) (xf:Int):LR_ranges_products_3p3→Prop
 |.x0 yB yP=>(yB.length≤2048)
 |.x1 yB yP=>(yB.length≤2048)
 |.x2 yB yP=>(yB.length≤2048)
 |.x3=>True
 |.x4=>True
 |.out=>True
def ranges_products_3p3a_f_o1 (k:Sn) (yB:List Sn) (yP:Int):List Ora:=[.dec true,.dec false,.op (some 49) ⟨.lsl 7 0 ((yB++[(⟨w64 (yP * k.lo),w64 (yP * k.hi)⟩:Sn)]).length) 2 none,[(5,none),(7,some ⟨(yB++[(⟨w64 (yP * k.lo),w64 (yP * k.hi)⟩:Sn)]).map Sn.D,2,false⟩)],[5,6],8⟩]
theorem lp_ranges_products_3p3a (k:Sn) (xe:Int) (xf:Int):∀(yR:Nat) (yB:List Sn) (yP:Int) (xL:ya k xe xf yR yB yP≠.out) (hw1:yB.length≤2048),(lim cfg).loop 72 lp72_3 ⟨54,[(1,I xe),(5,.lref 4 0 2 0),(7,.lsl 5 0 yB.length 2 none),(8,I yP)],[(4,⟨[.agg [I k.lo,I k.hi]],2,false⟩),(5,⟨yB.map Sn.D,2,false⟩)],6,4⟩=some (lr_ranges_products_3p3 k xe xf (ya k xe xf yR yB yP)):=by
 intro yR
 induction yR with
 |zero =>
  intro yB yP xL hw1
  exact absurd rfl xL
 |succ yR ih =>
  intro yB yP xL hw1
  unfold ya at xL ⊢
  revert xL
  cases h57:decide (yP≤xe) with
  |true =>
   have g57:=of_decide_eq_true h57
   cases h58:decide ((w64 (yP * (w64 (k.hi - k.lo)))) ≥ (w64 (k.lo - 1))) with
   |true =>
    have g58:=of_decide_eq_true h58
    intro xL
    exact zr [.dec true,.dec true,.op (some 37) ⟨.lsl 7 0 ((yB++[(⟨w64 (yP * k.lo),w64 (xe * k.hi)⟩:Sn)]).length) 2 none,[(5,none),(7,some ⟨(yB++[(⟨w64 (yP * k.lo),w64 (xe * k.hi)⟩:Sn)]).map Sn.D,2,false⟩)],[5,6],8⟩] (Ai (app_row (f:=Sn.D) (te:=zG) (gO:=zn [(4,⟨[.agg [I k.lo,I k.hi]],2,false⟩),(5,⟨yB.map Sn.D,2,false⟩),(6,⟨[.agg [I (w64 (yP * k.lo)),I (w64 (xe * k.hi))]],2,false⟩)]) (nxt:=7) (o:=5) (o2:=6) (fz:=false) z6 yB (⟨w64 (yP * k.lo),w64 (xe * k.hi)⟩:Sn) (by kernel_rfl) (by kernel_rfl) rfl (by kernel_rfl) (by decide) ⟨by simp only [zG,big]<;>(omega),by simp only [big]<;>(omega)⟩) (Ai h58 (Ai h57 trivial))) (by kernel_rfl)
   |false =>
    have g58:=of_decide_eq_false h58
    have p1:=(app_row (f:=Sn.D) (te:=zG) (gO:=zn [(4,⟨[.agg [I k.lo,I k.hi]],2,false⟩),(5,⟨yB.map Sn.D,2,false⟩),(6,⟨[.agg [I (w64 (yP * k.lo)),I (w64 (yP * k.hi))]],2,false⟩)]) (nxt:=7) (o:=5) (o2:=6) (fz:=false) z6 yB (⟨w64 (yP * k.lo),w64 (yP * k.hi)⟩:Sn) (by kernel_rfl) (by kernel_rfl) rfl (by kernel_rfl) (by decide) ⟨by simp only [zG,big]<;>(omega),by simp only [big]<;>(omega)⟩)
    cases h59:decide ((((yB++[(⟨w64 (yP * k.lo),w64 (yP * k.hi)⟩:Sn)]).length:Nat):Int)>2048) with
    |true =>
     have g59:=of_decide_eq_true h59
     intro xL
     exact zr ((ranges_products_3p3a_f_o1 k yB yP)++[.dec true]) (Ai h59 (Ai p1 (Ai h58 (Ai h57 trivial)))) (by kernel_rfl)
    |false =>
     have g59:=of_decide_eq_false h59
     intro xL
     exact zw (ks:=[1,5,7,8]) (st':=(sd40011 7 6 4 5 8 yP yB k xe)) ((ranges_products_3p3a_f_o1 k yB yP)++[.dec false]) (Ai h59 (Ai p1 (Ai h58 (Ai h57 trivial)))) (by kernel_rfl) (by (simp only [sd40011,go_sem,length_set,Nat.reduceAdd,Nat.reduceEqDiff,Nat.reduceLT,Nat.reduceLeDiff,bI2,zc.idsL,zc.renL,zc.snapAll,z6.idsL,z6.renL,z6.snapAll])<;>rfl) (ih (yB++[(⟨w64 (yP * k.lo),w64 (yP * k.hi)⟩:Sn)]) (w64 (yP+1)) xL (by omega)) (by kernel_rfl)
  |false =>
   have g57:=of_decide_eq_false h57
   intro xL
   exact zr [.dec false] (Ai h57 trivial) (by kernel_rfl)
theorem ivt_ranges_products_3p3a (k:Sn) (xe:Int) (xf:Int):∀(yR:Nat) (yB:List Sn) (yP:Int) (xL:ya k xe xf yR yB yP≠.out) (hw1:yB.length≤2048),iv_ranges_products_3p3 k xe xf (ya k xe xf yR yB yP):=by
 intro yR
 induction yR with
 |zero =>
  intro yB yP xL hw1
  exact absurd rfl xL
 |succ yR ih =>
  intro yB yP xL hw1
  unfold ya at xL ⊢
  revert xL
  cases h57:decide (yP≤xe) with
  |true =>
   have g57:=of_decide_eq_true h57
   cases h58:decide ((w64 (yP * (w64 (k.hi - k.lo)))) ≥ (w64 (k.lo - 1))) with
   |true =>
    have g58:=of_decide_eq_true h58
    intro xL
    exact hw1
   |false =>
    have g58:=of_decide_eq_false h58
    cases h59:decide ((((yB++[(⟨w64 (yP * k.lo),w64 (yP * k.hi)⟩:Sn)]).length:Nat):Int)>2048) with
    |true =>
     have g59:=of_decide_eq_true h59
     intro xL
     exact hw1
    |false =>
     have g59:=of_decide_eq_false h59
     intro xL
     exact ih (yB++[(⟨w64 (yP * k.lo),w64 (yP * k.hi)⟩:Sn)]) (w64 (yP+1)) xL (by omega)
  |false =>
   have g57:=of_decide_eq_false h57
   intro xL
   exact hw1
theorem lp_ranges_products_3p3 (k:Sn) (xe:Int) (xf:Int):∀(yR:Nat) (xL:y6 k xe xf yR≠.out),(lim cfg).loop 72 lp72_3 ⟨54,[(1,I xe),(5,.lref 4 0 2 0),(7,.sl true [] 0 none),(8,I xf)],[(4,⟨[.agg [I k.lo,I k.hi]],2,false⟩)],5,4⟩=some (lr_ranges_products_3p3 k xe xf (y6 k xe xf yR)):=by
 intro yR
 induction yR with
 |zero =>
  intro xL
  exact absurd rfl xL
 |succ yR ih =>
  intro xL
  unfold y6 at xL ⊢
  revert xL
  cases h60:decide (xf≤xe) with
  |true =>
   have g60:=of_decide_eq_true h60
   cases h61:decide ((w64 (xf * (w64 (k.hi - k.lo)))) ≥ (w64 (k.lo - 1))) with
   |true =>
    have g61:=of_decide_eq_true h61
    intro xL
    exact zr [.dec true,.dec true] (Ai h61 (Ai h60 trivial)) (by kernel_rfl)
   |false =>
    have g61:=of_decide_eq_false h61
    intro xL
    exact po_turn [.dec true,.dec false,.dec false] (Ai (Eq.refl false) (Ai h61 (Ai h60 trivial))) (lp_ranges_products_3p3a k xe xf _ [(⟨w64 (xf * k.lo),w64 (xf * k.hi)⟩:Sn)] (w64 (xf+1)) xL (by simp only [length_append,length_cons,length_nil] at *<;>omega)) (by kernel_rfl)
  |false =>
   have g60:=of_decide_eq_false h60
   intro xL
   exact zr [.dec false] (Ai h60 trivial) (by kernel_rfl)
theorem ivt_ranges_products_3p3 (k:Sn) (xe:Int) (xf:Int):∀(yR:Nat) (xL:y6 k xe xf yR≠.out),iv_ranges_products_3p3 k xe xf (y6 k xe xf yR):=by
 intro yR
 induction yR with
 |zero =>
  intro xL
  exact absurd rfl xL
 |succ yR ih =>
  intro xL
  unfold y6 at xL ⊢
  revert xL
  cases h60:decide (xf≤xe) with
  |true =>
   have g60:=of_decide_eq_true h60
   cases h61:decide ((w64 (xf * (w64 (k.hi - k.lo)))) ≥ (w64 (k.lo - 1))) with
   |true =>
    have g61:=of_decide_eq_true h61
    intro xL
    exact trivial
   |false =>
    have g61:=of_decide_eq_false h61
    intro xL
    exact ivt_ranges_products_3p3a k xe xf _ [(⟨w64 (xf * k.lo),w64 (xf * k.hi)⟩:Sn)] (w64 (xf+1)) xL (by simp only [length_append,length_cons,length_nil] at *<;>omega)
  |false =>
   have g60:=of_decide_eq_false h60
   intro xL
   exact trivial

theorem ranges_products_3p3_ne' (k:Sn) (xe:Int) (xf:Int):∀(n:Nat) (v:List Sn) (i:Int),2050≤v.length+n→v.length≤2048→ya k xe xf n v i≠.out
 |0,v,i,h1,h2=>by omega
 |n+1,v,i,h1,h2=>by
  unfold ya
  simp only [Bool.cond_eq_ite]
  repeat' split
  all_goals simp only [decide_eq_true_eq] at *
  all_goals first|(intro h;cases h;done)|exact ranges_products_3p3_ne' k xe xf n _ _ (by simp only [length_append,length_cons,length_nil] at *;omega) (by simp only [length_append,length_cons,length_nil] at *;omega)
theorem yi (k:Sn) (xe:Int) (xf:Int):y6 k xe xf 2051≠.out:=by
 unfold y6
 simp only [Bool.cond_eq_ite]
 repeat' split
 all_goals first|(intro h;cases h;done)|exact ranges_products_3p3_ne' k xe xf 2050 _ _ (by simp) (by simp)

inductive LR_ranges_Times_1_3p1 where
 |x0 (xn:List Sn)
instance:Inhabited LR_ranges_Times_1_3p1:=⟨.x0 default⟩
def zT:List Sn→(List Sn)→LR_ranges_Times_1_3p1
 |[],xn=>.x0 xn
 |x3p1::xq,xn =>
  zT xq (xn++[(⟨w64 (0 - x3p1.hi),w64 (0 - x3p1.lo)⟩:Sn)])
def lr_ranges_Times_1_3p1 (yY:List Sn):LR_ranges_Times_1_3p1→Exit × St
 |.x0 xn=>((.exit 0),(sd40013 0 1 2 xn yY))
def iv_ranges_Times_1_3p1 (yY:List Sn):LR_ranges_Times_1_3p1→Prop
 |.x0 xn=>(xn.length≤2049+yY.length)
theorem lp_ranges_Times_1_3p1 (yY:List Sn):∀(xq:List Sn) (i3p1:Nat) (xn:List Sn) (hd3p1:yY.drop i3p1=xq) (hi3p1:i3p1≤yY.length) (hl49:yY.length≤2049) (hg3p1_v3p1_0:xn.length≤2049+i3p1) (hL3p1:yY.length≤1099511627776),(lim cfg).loop 71 lp71_3 ⟨40,[(4,.lsl 0 0 xn.length 2 none),(22,.lsl 1 0 yY.length 2 none),(23,I (yY.length:Int)),(24,I (i3p1:Int))],[(0,⟨xn.map Sn.D,2,false⟩),(1,⟨yY.map Sn.D,2,false⟩)],2,0⟩=some (lr_ranges_Times_1_3p1 yY (zT xq xn)):=by
 intro xq
 induction xq with
 |nil =>
  intro i3p1 xn hd3p1 hi3p1 hl49 hg3p1_v3p1_0 hL3p1
  unfold zT
  obtain rfl:i3p1=yY.length:=nil_eq hd3p1 hi3p1
  exact zr [.dec false] (Ai (lt_no hd3p1) trivial) (by kernel_rfl)
 |cons x3p1 xq ih =>
  intro i3p1 xn hd3p1 hi3p1 hl49 hg3p1_v3p1_0 hL3p1
  have hlt3p1:=ze hd3p1
  unfold zT
  exact zw (ks:=[4,22,23,24]) (st':=(sd40014 4 3 2 0 1 5 i3p1 xn x3p1 yY)) [.dec true,.op (some 26) ⟨.lref 1 i3p1 2 0,[],[],2⟩,.op (some 27) ⟨.agg [I x3p1.lo,I x3p1.hi],[],[1],2⟩,.op (some 37) ⟨.lsl 4 0 ((xn++[(⟨w64 (0 - x3p1.hi),w64 (0 - x3p1.lo)⟩:Sn)]).length) 2 none,[(0,none),(4,some ⟨(xn++[(⟨w64 (0 - x3p1.hi),w64 (0 - x3p1.lo)⟩:Sn)]).map Sn.D,2,false⟩)],[0,3],5⟩,.rw 38 (I ((i3p1+1:Nat):Int))] (Ai (zZ (i:=i3p1) (by have:=ze hd3p1;omega)) (Ai (app_row (f:=Sn.D) (te:=zG) (gO:=zn [(0,⟨xn.map Sn.D,2,false⟩),(1,⟨yY.map Sn.D,2,false⟩),(2,⟨[.agg [I x3p1.lo,I x3p1.hi]],2,false⟩),(3,⟨[.agg [I (w64 (0 - x3p1.hi)),I (w64 (0 - x3p1.lo))]],2,false⟩)]) (nxt:=4) (o:=0) (o2:=3) (fz:=false) z6 xn (⟨w64 (0 - x3p1.hi),w64 (0 - x3p1.lo)⟩:Sn) (by kernel_rfl) (by kernel_rfl) rfl (by kernel_rfl) (by decide) ⟨by simp only [zG,big]<;>(omega),by simp only [big]<;>(omega)⟩) (Ai (load_row (C:=cfg) (objs:=[(0,⟨xn.map Sn.D,2,false⟩),(1,⟨yY.map Sn.D,2,false⟩)]) (nxt:=2) (t:=25) (ty:=zG) (o:=1) (n:=i3p1) (sz:=2) (sub:=0) (ob:=⟨yY.map Sn.D,2,false⟩) (e:=Sn.D x3p1) (d:=.agg [I x3p1.lo,I x3p1.hi]) (by kernel_rfl) (by kernel_rfl) rfl (row_at (f:=Sn.D) hd3p1) (by kernel_rfl)) (Ai (idx_row (C:=cfg) (nxt:=2) (t:=22) (ty:=ty22) (te:=zG) (e:=25) (o:=1) (len:=yY.length) (sz:=2) (cap:=none) (i:=(i3p1:Int)) (by kernel_rfl) rfl (by kernel_rfl) rfl (by omega) (by omega)) (Ai (yl hd3p1) trivial))))) (by kernel_rfl) (by (simp only [sd40014,go_sem,length_set,Nat.reduceAdd,Nat.reduceEqDiff,Nat.reduceLT,Nat.reduceLeDiff,bI2,zc.idsL,zc.renL,zc.snapAll,z6.idsL,z6.renL,z6.snapAll])<;>rfl) (ih (i3p1+1) (xn++[(⟨w64 (0 - x3p1.hi),w64 (0 - x3p1.lo)⟩:Sn)]) (zf hd3p1) (ze hd3p1) (by omega) (by simp only [length_append,length_cons,length_nil] at *<;>omega) (by omega)) (by kernel_rfl)
theorem ivt_ranges_Times_1_3p1 (yY:List Sn):∀(xq:List Sn) (i3p1:Nat) (xn:List Sn) (hd3p1:yY.drop i3p1=xq) (hi3p1:i3p1≤yY.length) (hl49:yY.length≤2049) (hg3p1_v3p1_0:xn.length≤2049+i3p1) (hL3p1:yY.length≤1099511627776),iv_ranges_Times_1_3p1 yY (zT xq xn):=by
 intro xq
 induction xq with
 |nil =>
  intro i3p1 xn hd3p1 hi3p1 hl49 hg3p1_v3p1_0 hL3p1
  unfold zT
  obtain rfl:i3p1=yY.length:=nil_eq hd3p1 hi3p1
  exact hg3p1_v3p1_0
 |cons x3p1 xq ih =>
  intro i3p1 xn hd3p1 hi3p1 hl49 hg3p1_v3p1_0 hL3p1
  have hlt3p1:=ze hd3p1
  unfold zT
  exact ih (i3p1+1) (xn++[(⟨w64 (0 - x3p1.hi),w64 (0 - x3p1.lo)⟩:Sn)]) (zf hd3p1) (ze hd3p1) (by omega) (by simp only [length_append,length_cons,length_nil] at *<;>omega) (by omega)

inductive LR_ranges_products_3p4 where
 |x0 (yN:List Sn) (yL:Int)
 |x1 (yN:List Sn) (yL:Int)
 |x2 (yN:List Sn) (yL:Int)
 |x3
 |x4
 |out
instance:Inhabited LR_ranges_products_3p4:=⟨.out⟩
def yb (k:Sn) (xg:Int) (xh:Int):Nat→(List Sn)→Int→LR_ranges_products_3p4
 |0,_,_=>.out
 |xD+1,yN,yL =>
  bif decide (yL≤xg) then
   bif decide ((w64 (yL * (w64 (k.hi - k.lo)))) ≥ (w64 (k.lo - 1))) then
    .x0 yN yL
   else
    bif decide ((((yN++[(⟨w64 (yL * k.lo),w64 (yL * k.hi)⟩:Sn)]).length:Nat):Int)>2048) then
     .x1 yN yL
    else
     yb k xg xh xD (yN++[(⟨w64 (yL * k.lo),w64 (yL * k.hi)⟩:Sn)]) (w64 (yL+1))
  else
   .x2 yN yL
def y7 (k:Sn) (xg:Int) (xh:Int):Nat→LR_ranges_products_3p4
 |0=>.out
 |xD+1 =>
  bif decide (xh≤xg) then
   bif decide ((w64 (xh * (w64 (k.hi - k.lo)))) ≥ (w64 (k.lo - 1))) then
    .x3
   else
    yb k xg xh xD [(⟨w64 (xh * k.lo),w64 (xh * k.hi)⟩:Sn)] (w64 (xh+1))
  else
   .x4
def lr_ranges_products_3p4 (k:Sn) (xg:Int) (xh:Int):LR_ranges_products_3p4→Exit × St
 |.x0 yN yL=>(.ret,(sd40006 5 4 2 3 6 yN yL k xg))
 |.x1 yN yL=>((.exit 0),(sd40007 5 4 2 3 6 yN yL k xg))
 |.x2 yN yL=>((.exit 0),(sd40008 2 3 4 xg yL yN k))
 |.x3=>(.ret,(sd40009 4 3 2 5 xh k xg))
 |.x4=>((.exit 0),(sd40010 2 3 xg xh k))
 |.out=>(.normal,⟨0,[],[],0,0⟩)
def iv_ranges_products_3p4 (k:Sn) (xg:Int) (xh:Int):LR_ranges_products_3p4→Prop
 |.x0 yN yL=>(yN.length≤2048)
 |.x1 yN yL=>(yN.length≤2048)
 |.x2 yN yL=>(yN.length≤2048)
 |.x3=>True
 |.x4=>True
 |.out=>True
def ranges_products_3p4a_f_o1 (k:Sn) (yN:List Sn) (yL:Int):List Ora:=[.dec true,.dec false,.op (some 49) ⟨.lsl 5 0 ((yN++[(⟨w64 (yL * k.lo),w64 (yL * k.hi)⟩:Sn)]).length) 2 none,[(3,none),(5,some ⟨(yN++[(⟨w64 (yL * k.lo),w64 (yL * k.hi)⟩:Sn)]).map Sn.D,2,false⟩)],[3,4],6⟩]
theorem lp_ranges_products_3p4a (k:Sn) (xg:Int) (xh:Int):∀(xD:Nat) (yN:List Sn) (yL:Int) (xM:yb k xg xh xD yN yL≠.out) (hw1:yN.length≤2048),(lim cfg).loop 72 lp72_3 ⟨54,[(1,I xg),(5,.lref 2 0 2 0),(7,.lsl 3 0 yN.length 2 none),(8,I yL)],[(2,⟨[.agg [I k.lo,I k.hi]],2,false⟩),(3,⟨yN.map Sn.D,2,false⟩)],4,2⟩=some (lr_ranges_products_3p4 k xg xh (yb k xg xh xD yN yL)):=by
 intro xD
 induction xD with
 |zero =>
  intro yN yL xM hw1
  exact absurd rfl xM
 |succ xD ih =>
  intro yN yL xM hw1
  unfold yb at xM ⊢
  revert xM
  cases h73:decide (yL≤xg) with
  |true =>
   have g73:=of_decide_eq_true h73
   cases h74:decide ((w64 (yL * (w64 (k.hi - k.lo)))) ≥ (w64 (k.lo - 1))) with
   |true =>
    have g74:=of_decide_eq_true h74
    intro xM
    exact zr [.dec true,.dec true,.op (some 37) ⟨.lsl 5 0 ((yN++[(⟨w64 (yL * k.lo),w64 (xg * k.hi)⟩:Sn)]).length) 2 none,[(3,none),(5,some ⟨(yN++[(⟨w64 (yL * k.lo),w64 (xg * k.hi)⟩:Sn)]).map Sn.D,2,false⟩)],[3,4],6⟩] (Ai (app_row (f:=Sn.D) (te:=zG) (gO:=zn [(2,⟨[.agg [I k.lo,I k.hi]],2,false⟩),(3,⟨yN.map Sn.D,2,false⟩),(4,⟨[.agg [I (w64 (yL * k.lo)),I (w64 (xg * k.hi))]],2,false⟩)]) (nxt:=5) (o:=3) (o2:=4) (fz:=false) z6 yN (⟨w64 (yL * k.lo),w64 (xg * k.hi)⟩:Sn) (by kernel_rfl) (by kernel_rfl) rfl (by kernel_rfl) (by decide) ⟨by simp only [zG,big]<;>(omega),by simp only [big]<;>(omega)⟩) (Ai h74 (Ai h73 trivial))) (by kernel_rfl)
   |false =>
    have g74:=of_decide_eq_false h74
    have p1:=(app_row (f:=Sn.D) (te:=zG) (gO:=zn [(2,⟨[.agg [I k.lo,I k.hi]],2,false⟩),(3,⟨yN.map Sn.D,2,false⟩),(4,⟨[.agg [I (w64 (yL * k.lo)),I (w64 (yL * k.hi))]],2,false⟩)]) (nxt:=5) (o:=3) (o2:=4) (fz:=false) z6 yN (⟨w64 (yL * k.lo),w64 (yL * k.hi)⟩:Sn) (by kernel_rfl) (by kernel_rfl) rfl (by kernel_rfl) (by decide) ⟨by simp only [zG,big]<;>(omega),by simp only [big]<;>(omega)⟩)
    cases h75:decide ((((yN++[(⟨w64 (yL * k.lo),w64 (yL * k.hi)⟩:Sn)]).length:Nat):Int)>2048) with
    |true =>
     have g75:=of_decide_eq_true h75
     intro xM
     exact zr ((ranges_products_3p4a_f_o1 k yN yL)++[.dec true]) (Ai h75 (Ai p1 (Ai h74 (Ai h73 trivial)))) (by kernel_rfl)
    |false =>
     have g75:=of_decide_eq_false h75
     intro xM
     exact zw (ks:=[1,5,7,8]) (st':=(sd40011 5 4 2 3 6 yL yN k xg)) ((ranges_products_3p4a_f_o1 k yN yL)++[.dec false]) (Ai h75 (Ai p1 (Ai h74 (Ai h73 trivial)))) (by kernel_rfl) (by (simp only [sd40011,go_sem,length_set,Nat.reduceAdd,Nat.reduceEqDiff,Nat.reduceLT,Nat.reduceLeDiff,bI2,zc.idsL,zc.renL,zc.snapAll,z6.idsL,z6.renL,z6.snapAll])<;>rfl) (ih (yN++[(⟨w64 (yL * k.lo),w64 (yL * k.hi)⟩:Sn)]) (w64 (yL+1)) xM (by omega)) (by kernel_rfl)
  |false =>
   have g73:=of_decide_eq_false h73
   intro xM
   exact zr [.dec false] (Ai h73 trivial) (by kernel_rfl)
theorem ivt_ranges_products_3p4a (k:Sn) (xg:Int) (xh:Int):∀(xD:Nat) (yN:List Sn) (yL:Int) (xM:yb k xg xh xD yN yL≠.out) (hw1:yN.length≤2048),iv_ranges_products_3p4 k xg xh (yb k xg xh xD yN yL):=by
 intro xD
 induction xD with
 |zero =>
  intro yN yL xM hw1
  exact absurd rfl xM
 |succ xD ih =>
  intro yN yL xM hw1
  unfold yb at xM ⊢
  revert xM
  cases h73:decide (yL≤xg) with
  |true =>
   have g73:=of_decide_eq_true h73
   cases h74:decide ((w64 (yL * (w64 (k.hi - k.lo)))) ≥ (w64 (k.lo - 1))) with
   |true =>
    have g74:=of_decide_eq_true h74
    intro xM
    exact hw1
   |false =>
    have g74:=of_decide_eq_false h74
    cases h75:decide ((((yN++[(⟨w64 (yL * k.lo),w64 (yL * k.hi)⟩:Sn)]).length:Nat):Int)>2048) with
    |true =>
     have g75:=of_decide_eq_true h75
     intro xM
     exact hw1
    |false =>
     have g75:=of_decide_eq_false h75
     intro xM
     exact ih (yN++[(⟨w64 (yL * k.lo),w64 (yL * k.hi)⟩:Sn)]) (w64 (yL+1)) xM (by omega)
  |false =>
   have g73:=of_decide_eq_false h73
   intro xM
   exact hw1
theorem lp_ranges_products_3p4 (k:Sn) (xg:Int) (xh:Int):∀(xD:Nat) (xM:y7 k xg xh xD≠.out),(lim cfg).loop 72 lp72_3 ⟨54,[(1,I xg),(5,.lref 2 0 2 0),(7,.sl true [] 0 none),(8,I xh)],[(2,⟨[.agg [I k.lo,I k.hi]],2,false⟩)],3,2⟩=some (lr_ranges_products_3p4 k xg xh (y7 k xg xh xD)):=by
 intro xD
 induction xD with
 |zero =>
  intro xM
  exact absurd rfl xM
 |succ xD ih =>
  intro xM
  unfold y7 at xM ⊢
  revert xM
  cases h76:decide (xh≤xg) with
  |true =>
   have g76:=of_decide_eq_true h76
   cases h77:decide ((w64 (xh * (w64 (k.hi - k.lo)))) ≥ (w64 (k.lo - 1))) with
   |true =>
    have g77:=of_decide_eq_true h77
    intro xM
    exact zr [.dec true,.dec true] (Ai h77 (Ai h76 trivial)) (by kernel_rfl)
   |false =>
    have g77:=of_decide_eq_false h77
    intro xM
    exact po_turn [.dec true,.dec false,.dec false] (Ai (Eq.refl false) (Ai h77 (Ai h76 trivial))) (lp_ranges_products_3p4a k xg xh _ [(⟨w64 (xh * k.lo),w64 (xh * k.hi)⟩:Sn)] (w64 (xh+1)) xM (by simp only [length_append,length_cons,length_nil] at *<;>omega)) (by kernel_rfl)
  |false =>
   have g76:=of_decide_eq_false h76
   intro xM
   exact zr [.dec false] (Ai h76 trivial) (by kernel_rfl)
theorem ivt_ranges_products_3p4 (k:Sn) (xg:Int) (xh:Int):∀(xD:Nat) (xM:y7 k xg xh xD≠.out),iv_ranges_products_3p4 k xg xh (y7 k xg xh xD):=by
 intro xD
 induction xD with
 |zero =>
  intro xM
  exact absurd rfl xM
 |succ xD ih =>
  intro xM
  unfold y7 at xM ⊢
  revert xM
  cases h76:decide (xh≤xg) with
  |true =>
   have g76:=of_decide_eq_true h76
   cases h77:decide ((w64 (xh * (w64 (k.hi - k.lo)))) ≥ (w64 (k.lo - 1))) with
   |true =>
    have g77:=of_decide_eq_true h77
    intro xM
    exact trivial
   |false =>
    have g77:=of_decide_eq_false h77
    intro xM
    exact ivt_ranges_products_3p4a k xg xh _ [(⟨w64 (xh * k.lo),w64 (xh * k.hi)⟩:Sn)] (w64 (xh+1)) xM (by simp only [length_append,length_cons,length_nil] at *<;>omega)
  |false =>
   have g76:=of_decide_eq_false h76
   intro xM
   exact trivial

theorem ranges_products_3p4_ne' (k:Sn) (xg:Int) (xh:Int):∀(n:Nat) (v:List Sn) (i:Int),2050≤v.length+n→v.length≤2048→yb k xg xh n v i≠.out
 |0,v,i,h1,h2=>by omega
 |n+1,v,i,h1,h2=>by
  unfold yb
  simp only [Bool.cond_eq_ite]
  repeat' split
  all_goals simp only [decide_eq_true_eq] at *
  all_goals first|(intro h;cases h;done)|exact ranges_products_3p4_ne' k xg xh n _ _ (by simp only [length_append,length_cons,length_nil] at *;omega) (by simp only [length_append,length_cons,length_nil] at *;omega)
theorem yj (k:Sn) (xg:Int) (xh:Int):y7 k xg xh 2051≠.out:=by
 unfold y7
 simp only [Bool.cond_eq_ite]
 repeat' split
 all_goals first|(intro h;cases h;done)|exact ranges_products_3p4_ne' k xg xh 2050 _ _ (by simp) (by simp)

def sd40074 (ν0 ν1:Nat) (μ0:List Sn):St:=⟨40,[(25,B false),(4,.sl true [] 0 none),(22,.lsl ν0 0 μ0.length 2 none),(23,I ((μ0.length:Nat):Int)),(24,I ((μ0.length:Nat):Int))],[(ν0,⟨μ0.map Sn.D,2,false⟩)],ν1,ν0⟩

def sd40075 (ν0 ν1 ν2 ν3 ν4:Nat) (μ0:Nat) (μ1:Sn) (μ2:List Sn):St:=⟨40,[(24,I ((μ0+1:Nat):Int)),(38,I ((μ0+1:Nat):Int)),(4,.lsl ν0 0 1 2 none),(37,.lsl ν0 0 1 2 none),(36,.lsl ν1 0 1 2 (some 1)),(35,.agg [I (w64 (0 - μ1.hi)),I (w64 (0 - μ1.lo))]),(34,I (w64 (0 - μ1.lo))),(33,I μ1.lo),(32,.lref ν2 0 2 0),(31,I (w64 (0 - μ1.hi))),(30,I μ1.hi),(29,.lref ν2 0 2 1),(28,.sl true [] 0 none),(6,.lref ν2 0 2 0),(27,.agg [I μ1.lo,I μ1.hi]),(26,.lref ν3 μ0 2 0),(25,B true),(4,.sl true [] 0 none),(22,.lsl ν3 0 μ2.length 2 none),(23,I ((μ2.length:Nat):Int)),(24,I ((μ0:Nat):Int))],[(ν3,⟨μ2.map Sn.D,2,false⟩),(ν2,⟨[.agg [I μ1.lo,I μ1.hi]],2,false⟩),(ν1,⟨[.agg [I (w64 (0 - μ1.hi)),I (w64 (0 - μ1.lo))]],2,false⟩),(ν0,⟨[.agg [I (w64 (0 - μ1.hi)),I (w64 (0 - μ1.lo))]],2,false⟩)],ν4,ν3⟩

inductive LR_ranges_Times_1_3p2 where
 |x0 (yz:List Sn)
 |x1
instance:Inhabited LR_ranges_Times_1_3p2:=⟨.x0 default⟩
def yf:List Sn→(List Sn)→LR_ranges_Times_1_3p2
 |[],yz=>.x0 yz
 |yX::yQ,yz =>
  yf yQ (yz++[(⟨w64 (0 - yX.hi),w64 (0 - yX.lo)⟩:Sn)])
def zX:List Sn→LR_ranges_Times_1_3p2
 |[]=>.x1
 |yX::yQ =>
  yf yQ [(⟨w64 (0 - yX.hi),w64 (0 - yX.lo)⟩:Sn)]
def lr_ranges_Times_1_3p2 (yU:List Sn):LR_ranges_Times_1_3p2→Exit × St
 |.x0 yz=>((.exit 0),(sd40013 0 1 2 yz yU))
 |.x1=>((.exit 0),(sd40074 0 1 yU))
def iv_ranges_Times_1_3p2 (yU:List Sn):LR_ranges_Times_1_3p2→Prop
 |.x0 yz=>(yz.length≤2049+yU.length)
 |.x1=>True
theorem lp_ranges_Times_1_3p2a (yU:List Sn):∀(yQ:List Sn) (xo:Nat) (yz:List Sn) (yT:yU.drop xo=yQ) (xF:xo≤yU.length) (hl49:yU.length≤2049) (hg3p2_va3p2_0:yz.length≤2049+xo) (hL3p2:yU.length≤1099511627776),(lim cfg).loop 71 lp71_3 ⟨40,[(4,.lsl 0 0 yz.length 2 none),(22,.lsl 1 0 yU.length 2 none),(23,I (yU.length:Int)),(24,I (xo:Int))],[(0,⟨yz.map Sn.D,2,false⟩),(1,⟨yU.map Sn.D,2,false⟩)],2,0⟩=some (lr_ranges_Times_1_3p2 yU (yf yQ yz)):=by
 intro yQ
 induction yQ with
 |nil =>
  intro xo yz yT xF hl49 hg3p2_va3p2_0 hL3p2
  unfold yf
  obtain rfl:xo=yU.length:=nil_eq yT xF
  exact zr [.dec false] (Ai (lt_no yT) trivial) (by kernel_rfl)
 |cons yX yQ ih =>
  intro xo yz yT xF hl49 hg3p2_va3p2_0 hL3p2
  have hlt3p2:=ze yT
  unfold yf
  exact zw (ks:=[4,22,23,24]) (st':=(sd40014 4 3 2 0 1 5 xo yz yX yU)) [.dec true,.op (some 26) ⟨.lref 1 xo 2 0,[],[],2⟩,.op (some 27) ⟨.agg [I yX.lo,I yX.hi],[],[1],2⟩,.op (some 37) ⟨.lsl 4 0 ((yz++[(⟨w64 (0 - yX.hi),w64 (0 - yX.lo)⟩:Sn)]).length) 2 none,[(0,none),(4,some ⟨(yz++[(⟨w64 (0 - yX.hi),w64 (0 - yX.lo)⟩:Sn)]).map Sn.D,2,false⟩)],[0,3],5⟩,.rw 38 (I ((xo+1:Nat):Int))] (Ai (zZ (i:=xo) (by have:=ze yT;omega)) (Ai (app_row (f:=Sn.D) (te:=zG) (gO:=zn [(0,⟨yz.map Sn.D,2,false⟩),(1,⟨yU.map Sn.D,2,false⟩),(2,⟨[.agg [I yX.lo,I yX.hi]],2,false⟩),(3,⟨[.agg [I (w64 (0 - yX.hi)),I (w64 (0 - yX.lo))]],2,false⟩)]) (nxt:=4) (o:=0) (o2:=3) (fz:=false) z6 yz (⟨w64 (0 - yX.hi),w64 (0 - yX.lo)⟩:Sn) (by kernel_rfl) (by kernel_rfl) rfl (by kernel_rfl) (by decide) ⟨by simp only [zG,big]<;>(omega),by simp only [big]<;>(omega)⟩) (Ai (load_row (C:=cfg) (objs:=[(0,⟨yz.map Sn.D,2,false⟩),(1,⟨yU.map Sn.D,2,false⟩)]) (nxt:=2) (t:=25) (ty:=zG) (o:=1) (n:=xo) (sz:=2) (sub:=0) (ob:=⟨yU.map Sn.D,2,false⟩) (e:=Sn.D yX) (d:=.agg [I yX.lo,I yX.hi]) (by kernel_rfl) (by kernel_rfl) rfl (row_at (f:=Sn.D) yT) (by kernel_rfl)) (Ai (idx_row (C:=cfg) (nxt:=2) (t:=22) (ty:=ty22) (te:=zG) (e:=25) (o:=1) (len:=yU.length) (sz:=2) (cap:=none) (i:=(xo:Int)) (by kernel_rfl) rfl (by kernel_rfl) rfl (by omega) (by omega)) (Ai (yl yT) trivial))))) (by kernel_rfl) (by (simp only [sd40014,go_sem,length_set,Nat.reduceAdd,Nat.reduceEqDiff,Nat.reduceLT,Nat.reduceLeDiff,bI2,zc.idsL,zc.renL,zc.snapAll,z6.idsL,z6.renL,z6.snapAll])<;>rfl) (ih (xo+1) (yz++[(⟨w64 (0 - yX.hi),w64 (0 - yX.lo)⟩:Sn)]) (zf yT) (ze yT) (by omega) (by simp only [length_append,length_cons,length_nil] at *<;>omega) (by omega)) (by kernel_rfl)
theorem ivt_ranges_Times_1_3p2a (yU:List Sn):∀(yQ:List Sn) (xo:Nat) (yz:List Sn) (yT:yU.drop xo=yQ) (xF:xo≤yU.length) (hl49:yU.length≤2049) (hg3p2_va3p2_0:yz.length≤2049+xo) (hL3p2:yU.length≤1099511627776),iv_ranges_Times_1_3p2 yU (yf yQ yz):=by
 intro yQ
 induction yQ with
 |nil =>
  intro xo yz yT xF hl49 hg3p2_va3p2_0 hL3p2
  unfold yf
  obtain rfl:xo=yU.length:=nil_eq yT xF
  exact hg3p2_va3p2_0
 |cons yX yQ ih =>
  intro xo yz yT xF hl49 hg3p2_va3p2_0 hL3p2
  have hlt3p2:=ze yT
  unfold yf
  exact ih (xo+1) (yz++[(⟨w64 (0 - yX.hi),w64 (0 - yX.lo)⟩:Sn)]) (zf yT) (ze yT) (by omega) (by simp only [length_append,length_cons,length_nil] at *<;>omega) (by omega)
theorem lp_ranges_Times_1_3p2 (yU:List Sn):∀(yQ:List Sn) (xo:Nat) (yT:yU.drop xo=yQ) (xF:xo≤yU.length) (hl49:yU.length≤2049) (hL3p2:yU.length≤1099511627776),(lim cfg).loop 71 lp71_3 ⟨40,[(4,.sl true [] 0 none),(22,.lsl 0 0 yU.length 2 none),(23,I (yU.length:Int)),(24,I (xo:Int))],[(0,⟨yU.map Sn.D,2,false⟩)],1,0⟩=some (lr_ranges_Times_1_3p2 yU (zX yQ)):=by
 intro yQ
 induction yQ with
 |nil =>
  intro xo yT xF hl49 hL3p2
  unfold zX
  obtain rfl:xo=yU.length:=nil_eq yT xF
  exact zr [.dec false] (Ai (lt_no yT) trivial) (by kernel_rfl)
 |cons yX yQ ih =>
  intro xo yT xF hl49 hL3p2
  have hlt3p2:=ze yT
  unfold zX
  dsimp only
  exact zw (ks:=[4,22,23,24]) (st':=(sd40075 3 2 1 0 4 xo yX yU)) [.dec true,.op (some 26) ⟨.lref 0 xo 2 0,[],[],1⟩,.op (some 27) ⟨.agg [I yX.lo,I yX.hi],[],[0],1⟩,.rw 38 (I ((xo+1:Nat):Int))] (Ai (zZ (i:=xo) (by have:=ze yT;omega)) (Ai (load_row (C:=cfg) (objs:=[(0,⟨yU.map Sn.D,2,false⟩)]) (nxt:=1) (t:=25) (ty:=zG) (o:=0) (n:=xo) (sz:=2) (sub:=0) (ob:=⟨yU.map Sn.D,2,false⟩) (e:=Sn.D yX) (d:=.agg [I yX.lo,I yX.hi]) (by kernel_rfl) (by kernel_rfl) rfl (row_at (f:=Sn.D) yT) (by kernel_rfl)) (Ai (idx_row (C:=cfg) (nxt:=1) (t:=22) (ty:=ty22) (te:=zG) (e:=25) (o:=0) (len:=yU.length) (sz:=2) (cap:=none) (i:=(xo:Int)) (by kernel_rfl) rfl (by kernel_rfl) rfl (by omega) (by omega)) (Ai (yl yT) trivial)))) (by kernel_rfl) (by (simp only [sd40075,go_sem,length_set,Nat.reduceAdd,Nat.reduceEqDiff,Nat.reduceLT,Nat.reduceLeDiff,bI2,zc.idsL,zc.renL,zc.snapAll,z6.idsL,z6.renL,z6.snapAll])<;>rfl) (lp_ranges_Times_1_3p2a yU _ (xo+1) [(⟨w64 (0 - yX.hi),w64 (0 - yX.lo)⟩:Sn)] (zf yT) (ze yT) (by omega) (by simp only [length_append,length_cons,length_nil] at *<;>omega) (by omega)) (by kernel_rfl)
theorem ivt_ranges_Times_1_3p2 (yU:List Sn):∀(yQ:List Sn) (xo:Nat) (yT:yU.drop xo=yQ) (xF:xo≤yU.length) (hl49:yU.length≤2049) (hL3p2:yU.length≤1099511627776),iv_ranges_Times_1_3p2 yU (zX yQ):=by
 intro yQ
 induction yQ with
 |nil =>
  intro xo yT xF hl49 hL3p2
  unfold zX
  obtain rfl:xo=yU.length:=nil_eq yT xF
  exact trivial
 |cons yX yQ ih =>
  intro xo yT xF hl49 hL3p2
  have hlt3p2:=ze yT
  unfold zX
  dsimp only
  exact ivt_ranges_Times_1_3p2a yU _ (xo+1) [(⟨w64 (0 - yX.hi),w64 (0 - yX.lo)⟩:Sn)] (zf yT) (ze yT) (by omega) (by simp only [length_append,length_cons,length_nil] at *<;>omega) (by omega)

def z8 (x:Sn) (k:Sn):(GS Sn) :=
 match yp x k (zb x.lo 0) 2051 with
 |.x0 yD yE =>
  match zN k (w64 (0 - x.lo)) (zb (w64 (0 - x.hi)) 0) 2051 with
  |.x0 yJ yI =>
   match zz (yJ++[(⟨w64 (yI * k.lo),w64 ((w64 (0 - x.lo)) * k.hi)⟩:Sn)]) (yD++[(⟨w64 (yE * k.lo),w64 (x.hi * k.hi)⟩:Sn)]) with
   |.x0 xk =>
    GS.some xk
  |.x1 yJ yI =>
   match zz (yJ++[(⟨w64 (yI * k.lo),w64 (yI * k.hi)⟩:Sn)]) (yD++[(⟨w64 (yE * k.lo),w64 (x.hi * k.hi)⟩:Sn)]) with
   |.x0 xk =>
    GS.some xk
  |.x2 yJ yI =>
   match zz yJ (yD++[(⟨w64 (yE * k.lo),w64 (x.hi * k.hi)⟩:Sn)]) with
   |.x0 xk =>
    GS.some xk
  |.x3 =>
   GS.some ((yD++[(⟨w64 (yE * k.lo),w64 (x.hi * k.hi)⟩:Sn)])++[(⟨w64 (0 - (w64 ((w64 (0 - x.lo)) * k.hi))),w64 (0 - (w64 ((zb (w64 (0 - x.hi)) 0) * k.lo)))⟩:Sn)])
  |.x4 =>
   GS.some (yD++[(⟨w64 (yE * k.lo),w64 (x.hi * k.hi)⟩:Sn)])
  |.out =>
   default
 |.x1 yD yE =>
  match zN k (w64 (0 - x.lo)) (zb (w64 (0 - x.hi)) 0) 2051 with
  |.x0 yJ yI =>
   match zz (yJ++[(⟨w64 (yI * k.lo),w64 ((w64 (0 - x.lo)) * k.hi)⟩:Sn)]) (yD++[(⟨w64 (yE * k.lo),w64 (yE * k.hi)⟩:Sn)]) with
   |.x0 xk =>
    GS.some xk
  |.x1 yJ yI =>
   match zz (yJ++[(⟨w64 (yI * k.lo),w64 (yI * k.hi)⟩:Sn)]) (yD++[(⟨w64 (yE * k.lo),w64 (yE * k.hi)⟩:Sn)]) with
   |.x0 xk =>
    GS.some xk
  |.x2 yJ yI =>
   match zz yJ (yD++[(⟨w64 (yE * k.lo),w64 (yE * k.hi)⟩:Sn)]) with
   |.x0 xk =>
    GS.some xk
  |.x3 =>
   GS.some ((yD++[(⟨w64 (yE * k.lo),w64 (yE * k.hi)⟩:Sn)])++[(⟨w64 (0 - (w64 ((w64 (0 - x.lo)) * k.hi))),w64 (0 - (w64 ((zb (w64 (0 - x.hi)) 0) * k.lo)))⟩:Sn)])
  |.x4 =>
   GS.some (yD++[(⟨w64 (yE * k.lo),w64 (yE * k.hi)⟩:Sn)])
  |.out =>
   default
 |.x2 yD yE =>
  match y5 k (w64 (0 - x.lo)) (zb (w64 (0 - x.hi)) 0) 2051 with
  |.x0 yz yO =>
   match zz (yz++[(⟨w64 (yO * k.lo),w64 ((w64 (0 - x.lo)) * k.hi)⟩:Sn)]) yD with
   |.x0 xk =>
    GS.some xk
  |.x1 yz yO =>
   match zz (yz++[(⟨w64 (yO * k.lo),w64 (yO * k.hi)⟩:Sn)]) yD with
   |.x0 xk =>
    GS.some xk
  |.x2 yz yO =>
   match zz yz yD with
   |.x0 xk =>
    GS.some xk
  |.x3 =>
   GS.some (yD++[(⟨w64 (0 - (w64 ((w64 (0 - x.lo)) * k.hi))),w64 (0 - (w64 ((zb (w64 (0 - x.hi)) 0) * k.lo)))⟩:Sn)])
  |.x4 =>
   GS.some yD
  |.out =>
   default
 |.x3 =>
  match y6 k (w64 (0 - x.lo)) (zb (w64 (0 - x.hi)) 0) 2051 with
  |.x0 yB yP =>
   match zT (yB++[(⟨w64 (yP * k.lo),w64 ((w64 (0 - x.lo)) * k.hi)⟩:Sn)]) [(⟨(w64 ((zb x.lo 0) * k.lo)),(w64 (x.hi * k.hi))⟩:Sn)] with
   |.x0 xn =>
    GS.some xn
  |.x1 yB yP =>
   match zT (yB++[(⟨w64 (yP * k.lo),w64 (yP * k.hi)⟩:Sn)]) [(⟨(w64 ((zb x.lo 0) * k.lo)),(w64 (x.hi * k.hi))⟩:Sn)] with
   |.x0 xn =>
    GS.some xn
  |.x2 yB yP =>
   match zT yB [(⟨(w64 ((zb x.lo 0) * k.lo)),(w64 (x.hi * k.hi))⟩:Sn)] with
   |.x0 xn =>
    GS.some xn
  |.x3 =>
   GS.some [(⟨w64 ((zb x.lo 0) * k.lo),w64 (x.hi * k.hi)⟩:Sn),(⟨w64 (0 - (w64 ((w64 (0 - x.lo)) * k.hi))),w64 (0 - (w64 ((zb (w64 (0 - x.hi)) 0) * k.lo)))⟩:Sn)]
  |.x4 =>
   GS.some [(⟨w64 ((zb x.lo 0) * k.lo),w64 (x.hi * k.hi)⟩:Sn)]
  |.out =>
   default
 |.x4 =>
  match y7 k (w64 (0 - x.lo)) (zb (w64 (0 - x.hi)) 0) 2051 with
  |.x0 yN yL =>
   match zX (yN++[(⟨w64 (yL * k.lo),w64 ((w64 (0 - x.lo)) * k.hi)⟩:Sn)]) with
   |.x0 yz =>
    GS.some yz
   |.x1 =>
    GS.nil
  |.x1 yN yL =>
   match zX (yN++[(⟨w64 (yL * k.lo),w64 (yL * k.hi)⟩:Sn)]) with
   |.x0 yz =>
    GS.some yz
   |.x1 =>
    GS.nil
  |.x2 yN yL =>
   match zX yN with
   |.x0 yz =>
    GS.some yz
   |.x1 =>
    GS.nil
  |.x3 =>
   GS.some [(⟨w64 (0 - (w64 ((w64 (0 - x.lo)) * k.hi))),w64 (0 - (w64 ((zb (w64 (0 - x.hi)) 0) * k.lo)))⟩:Sn)]
  |.x4 =>
   GS.nil
  |.out =>
   default
 |.out =>
  default

def ranges_Times_1_o1 (x:Sn) (k:Sn) (yD:List Sn) (yE:Int):List Ora:=[.inl (.lsl 4 0 ((yD++[(⟨w64 (yE * k.lo),w64 (x.hi * k.hi)⟩:Sn)]).length) 2 none) [(1,⟨[.agg [I k.lo,I k.hi]],2,false⟩),(3,⟨[.agg [I (w64 (yE * k.lo)),I (w64 (x.hi * k.hi))]],2,false⟩),(4,⟨(yD++[(⟨w64 (yE * k.lo),w64 (x.hi * k.hi)⟩:Sn)]).map Sn.D,2,false⟩)] 5]

def sd40016 (ν0 ν1 ν2:Nat) (μ0:List Sn) (μ1:Int) (μ2:Sn) (μ3:Sn) (μ4:List Sn) (μ5:Int):St:=⟨40,[(4,.lsl ν0 0 ((μ0++[(⟨w64 (μ1 * μ2.lo),w64 (μ3.hi * μ2.hi)⟩:Sn)]).length) 2 none),(22,.lsl ν1 0 ((μ4++[(⟨w64 (μ5 * μ2.lo),w64 ((w64 (0 - μ3.lo)) * μ2.hi)⟩:Sn)]).length) 2 none),(23,I (((μ4++[(⟨w64 (μ5 * μ2.lo),w64 ((w64 (0 - μ3.lo)) * μ2.hi)⟩:Sn)]).length:Nat):Int)),(24,I 0)],[(ν0,⟨(μ0++[(⟨w64 (μ1 * μ2.lo),w64 (μ3.hi * μ2.hi)⟩:Sn)]).map Sn.D,2,false⟩),(ν1,⟨(μ4++[(⟨w64 (μ5 * μ2.lo),w64 ((w64 (0 - μ3.lo)) * μ2.hi)⟩:Sn)]).map Sn.D,2,false⟩)],ν2,ν0⟩

def sd40017 (ν0 ν1 ν2:Nat) (μ0:List Sn) (μ1:List Sn) (μ2:Int) (μ3:Sn) (μ4:Sn):St:=⟨40,[(25,B false),(4,.lsl ν0 0 μ0.length 2 none),(22,.lsl ν1 0 ((μ1++[(⟨w64 (μ2 * μ3.lo),w64 ((w64 (0 - μ4.lo)) * μ3.hi)⟩:Sn)]).length) 2 none),(23,I (((μ1++[(⟨w64 (μ2 * μ3.lo),w64 ((w64 (0 - μ4.lo)) * μ3.hi)⟩:Sn)]).length:Nat):Int)),(24,I (((μ1++[(⟨w64 (μ2 * μ3.lo),w64 ((w64 (0 - μ4.lo)) * μ3.hi)⟩:Sn)]).length:Nat):Int))],[(ν0,⟨μ0.map Sn.D,2,false⟩),(ν1,⟨(μ1++[(⟨w64 (μ2 * μ3.lo),w64 ((w64 (0 - μ4.lo)) * μ3.hi)⟩:Sn)]).map Sn.D,2,false⟩)],ν2,ν0⟩

def ranges_Times_1_o2 (x:Sn) (k:Sn) (yD:List Sn) (yE:Int) (yJ:List Sn) (yI:Int) (xk:List Sn):List Ora:=[.inl (.lsl 8 0 ((yJ++[(⟨w64 (yI * k.lo),w64 ((w64 (0 - x.lo)) * k.hi)⟩:Sn)]).length) 2 none) [(5,⟨[.agg [I k.lo,I k.hi]],2,false⟩),(7,⟨[.agg [I (w64 (yI * k.lo)),I (w64 ((w64 (0 - x.lo)) * k.hi))]],2,false⟩),(8,⟨(yJ++[(⟨w64 (yI * k.lo),w64 ((w64 (0 - x.lo)) * k.hi)⟩:Sn)]).map Sn.D,2,false⟩)] 9,.gloop (sd40016 0 1 2 yD yE k x yJ yI) (.exit 0) (sd40017 0 1 2 xk yJ yI k x)]

def sd40020 (ν0 ν1 ν2:Nat) (μ0:List Sn) (μ1:Int) (μ2:Sn) (μ3:Sn) (μ4:List Sn) (μ5:Int):St:=⟨40,[(4,.lsl ν0 0 ((μ0++[(⟨w64 (μ1 * μ2.lo),w64 (μ3.hi * μ2.hi)⟩:Sn)]).length) 2 none),(22,.lsl ν1 0 ((μ4++[(⟨w64 (μ5 * μ2.lo),w64 (μ5 * μ2.hi)⟩:Sn)]).length) 2 none),(23,I (((μ4++[(⟨w64 (μ5 * μ2.lo),w64 (μ5 * μ2.hi)⟩:Sn)]).length:Nat):Int)),(24,I 0)],[(ν0,⟨(μ0++[(⟨w64 (μ1 * μ2.lo),w64 (μ3.hi * μ2.hi)⟩:Sn)]).map Sn.D,2,false⟩),(ν1,⟨(μ4++[(⟨w64 (μ5 * μ2.lo),w64 (μ5 * μ2.hi)⟩:Sn)]).map Sn.D,2,false⟩)],ν2,ν0⟩

def sd40021 (ν0 ν1 ν2:Nat) (μ0:List Sn) (μ1:List Sn) (μ2:Int) (μ3:Sn):St:=⟨40,[(25,B false),(4,.lsl ν0 0 μ0.length 2 none),(22,.lsl ν1 0 ((μ1++[(⟨w64 (μ2 * μ3.lo),w64 (μ2 * μ3.hi)⟩:Sn)]).length) 2 none),(23,I (((μ1++[(⟨w64 (μ2 * μ3.lo),w64 (μ2 * μ3.hi)⟩:Sn)]).length:Nat):Int)),(24,I (((μ1++[(⟨w64 (μ2 * μ3.lo),w64 (μ2 * μ3.hi)⟩:Sn)]).length:Nat):Int))],[(ν0,⟨μ0.map Sn.D,2,false⟩),(ν1,⟨(μ1++[(⟨w64 (μ2 * μ3.lo),w64 (μ2 * μ3.hi)⟩:Sn)]).map Sn.D,2,false⟩)],ν2,ν0⟩

def ranges_Times_1_o3 (x:Sn) (k:Sn) (yD:List Sn) (yE:Int) (yJ:List Sn) (yI:Int) (xk:List Sn):List Ora:=[.inl (.lsl 8 0 ((yJ++[(⟨w64 (yI * k.lo),w64 (yI * k.hi)⟩:Sn)]).length) 2 none) [(5,⟨[.agg [I k.lo,I k.hi]],2,false⟩),(7,⟨[.agg [I (w64 (yI * k.lo)),I (w64 (yI * k.hi))]],2,false⟩),(8,⟨(yJ++[(⟨w64 (yI * k.lo),w64 (yI * k.hi)⟩:Sn)]).map Sn.D,2,false⟩)] 9,.gloop (sd40020 0 1 2 yD yE k x yJ yI) (.exit 0) (sd40021 0 1 2 xk yJ yI k)]

def sd40024 (ν0 ν1 ν2:Nat) (μ0:List Sn) (μ1:Int) (μ2:Sn) (μ3:Sn) (μ4:List Sn):St:=⟨40,[(4,.lsl ν0 0 ((μ0++[(⟨w64 (μ1 * μ2.lo),w64 (μ3.hi * μ2.hi)⟩:Sn)]).length) 2 none),(22,.lsl ν1 0 μ4.length 2 none),(23,I ((μ4.length:Nat):Int)),(24,I 0)],[(ν0,⟨(μ0++[(⟨w64 (μ1 * μ2.lo),w64 (μ3.hi * μ2.hi)⟩:Sn)]).map Sn.D,2,false⟩),(ν1,⟨μ4.map Sn.D,2,false⟩)],ν2,ν0⟩

def ranges_Times_1_o4 (x:Sn) (k:Sn) (yD:List Sn) (yE:Int) (yJ:List Sn) (xk:List Sn):List Ora:=[.inl (.lsl 6 0 yJ.length 2 none) [(5,⟨[.agg [I k.lo,I k.hi]],2,false⟩),(6,⟨yJ.map Sn.D,2,false⟩)] 7,.gloop (sd40024 0 1 2 yD yE k x yJ) (.exit 0) (sd40013 0 1 2 xk yJ)]

def ranges_Times_1_o5 (k:Sn) (yD:List Sn) (yE:Int):List Ora:=[.inl (.lsl 4 0 ((yD++[(⟨w64 (yE * k.lo),w64 (yE * k.hi)⟩:Sn)]).length) 2 none) [(1,⟨[.agg [I k.lo,I k.hi]],2,false⟩),(3,⟨[.agg [I (w64 (yE * k.lo)),I (w64 (yE * k.hi))]],2,false⟩),(4,⟨(yD++[(⟨w64 (yE * k.lo),w64 (yE * k.hi)⟩:Sn)]).map Sn.D,2,false⟩)] 5]

def sd40036 (ν0 ν1 ν2:Nat) (μ0:List Sn) (μ1:Int) (μ2:Sn) (μ3:List Sn) (μ4:Int) (μ5:Sn):St:=⟨40,[(4,.lsl ν0 0 ((μ0++[(⟨w64 (μ1 * μ2.lo),w64 (μ1 * μ2.hi)⟩:Sn)]).length) 2 none),(22,.lsl ν1 0 ((μ3++[(⟨w64 (μ4 * μ2.lo),w64 ((w64 (0 - μ5.lo)) * μ2.hi)⟩:Sn)]).length) 2 none),(23,I (((μ3++[(⟨w64 (μ4 * μ2.lo),w64 ((w64 (0 - μ5.lo)) * μ2.hi)⟩:Sn)]).length:Nat):Int)),(24,I 0)],[(ν0,⟨(μ0++[(⟨w64 (μ1 * μ2.lo),w64 (μ1 * μ2.hi)⟩:Sn)]).map Sn.D,2,false⟩),(ν1,⟨(μ3++[(⟨w64 (μ4 * μ2.lo),w64 ((w64 (0 - μ5.lo)) * μ2.hi)⟩:Sn)]).map Sn.D,2,false⟩)],ν2,ν0⟩

def ranges_Times_1_o6 (x:Sn) (k:Sn) (yD:List Sn) (yE:Int) (yJ:List Sn) (yI:Int) (xk:List Sn):List Ora:=[.inl (.lsl 8 0 ((yJ++[(⟨w64 (yI * k.lo),w64 ((w64 (0 - x.lo)) * k.hi)⟩:Sn)]).length) 2 none) [(5,⟨[.agg [I k.lo,I k.hi]],2,false⟩),(7,⟨[.agg [I (w64 (yI * k.lo)),I (w64 ((w64 (0 - x.lo)) * k.hi))]],2,false⟩),(8,⟨(yJ++[(⟨w64 (yI * k.lo),w64 ((w64 (0 - x.lo)) * k.hi)⟩:Sn)]).map Sn.D,2,false⟩)] 9,.gloop (sd40036 0 1 2 yD yE k yJ yI x) (.exit 0) (sd40017 0 1 2 xk yJ yI k x)]

def sd40038 (ν0 ν1 ν2:Nat) (μ0:List Sn) (μ1:Int) (μ2:Sn) (μ3:List Sn) (μ4:Int):St:=⟨40,[(4,.lsl ν0 0 ((μ0++[(⟨w64 (μ1 * μ2.lo),w64 (μ1 * μ2.hi)⟩:Sn)]).length) 2 none),(22,.lsl ν1 0 ((μ3++[(⟨w64 (μ4 * μ2.lo),w64 (μ4 * μ2.hi)⟩:Sn)]).length) 2 none),(23,I (((μ3++[(⟨w64 (μ4 * μ2.lo),w64 (μ4 * μ2.hi)⟩:Sn)]).length:Nat):Int)),(24,I 0)],[(ν0,⟨(μ0++[(⟨w64 (μ1 * μ2.lo),w64 (μ1 * μ2.hi)⟩:Sn)]).map Sn.D,2,false⟩),(ν1,⟨(μ3++[(⟨w64 (μ4 * μ2.lo),w64 (μ4 * μ2.hi)⟩:Sn)]).map Sn.D,2,false⟩)],ν2,ν0⟩

def ranges_Times_1_o7 (k:Sn) (yD:List Sn) (yE:Int) (yJ:List Sn) (yI:Int) (xk:List Sn):List Ora:=[.inl (.lsl 8 0 ((yJ++[(⟨w64 (yI * k.lo),w64 (yI * k.hi)⟩:Sn)]).length) 2 none) [(5,⟨[.agg [I k.lo,I k.hi]],2,false⟩),(7,⟨[.agg [I (w64 (yI * k.lo)),I (w64 (yI * k.hi))]],2,false⟩),(8,⟨(yJ++[(⟨w64 (yI * k.lo),w64 (yI * k.hi)⟩:Sn)]).map Sn.D,2,false⟩)] 9,.gloop (sd40038 0 1 2 yD yE k yJ yI) (.exit 0) (sd40021 0 1 2 xk yJ yI k)]

def sd40040 (ν0 ν1 ν2:Nat) (μ0:List Sn) (μ1:Int) (μ2:Sn) (μ3:List Sn):St:=⟨40,[(4,.lsl ν0 0 ((μ0++[(⟨w64 (μ1 * μ2.lo),w64 (μ1 * μ2.hi)⟩:Sn)]).length) 2 none),(22,.lsl ν1 0 μ3.length 2 none),(23,I ((μ3.length:Nat):Int)),(24,I 0)],[(ν0,⟨(μ0++[(⟨w64 (μ1 * μ2.lo),w64 (μ1 * μ2.hi)⟩:Sn)]).map Sn.D,2,false⟩),(ν1,⟨μ3.map Sn.D,2,false⟩)],ν2,ν0⟩

def ranges_Times_1_o8 (k:Sn) (yD:List Sn) (yE:Int) (yJ:List Sn) (xk:List Sn):List Ora:=[.inl (.lsl 6 0 yJ.length 2 none) [(5,⟨[.agg [I k.lo,I k.hi]],2,false⟩),(6,⟨yJ.map Sn.D,2,false⟩)] 7,.gloop (sd40040 0 1 2 yD yE k yJ) (.exit 0) (sd40013 0 1 2 xk yJ)]

def sd40050 (ν0 ν1 ν2:Nat) (μ0:List Sn) (μ1:List Sn) (μ2:Int) (μ3:Sn) (μ4:Sn):St:=⟨40,[(4,.lsl ν0 0 μ0.length 2 none),(22,.lsl ν1 0 ((μ1++[(⟨w64 (μ2 * μ3.lo),w64 ((w64 (0 - μ4.lo)) * μ3.hi)⟩:Sn)]).length) 2 none),(23,I (((μ1++[(⟨w64 (μ2 * μ3.lo),w64 ((w64 (0 - μ4.lo)) * μ3.hi)⟩:Sn)]).length:Nat):Int)),(24,I 0)],[(ν0,⟨μ0.map Sn.D,2,false⟩),(ν1,⟨(μ1++[(⟨w64 (μ2 * μ3.lo),w64 ((w64 (0 - μ4.lo)) * μ3.hi)⟩:Sn)]).map Sn.D,2,false⟩)],ν2,ν0⟩

def ranges_Times_1_o9 (x:Sn) (k:Sn) (yD:List Sn) (xk:List Sn) (yz:List Sn) (yO:Int):List Ora:=[.inl (.lsl 2 0 yD.length 2 none) [(1,⟨[.agg [I k.lo,I k.hi]],2,false⟩),(2,⟨yD.map Sn.D,2,false⟩)] 3,.inl (.lsl 6 0 ((yz++[(⟨w64 (yO * k.lo),w64 ((w64 (0 - x.lo)) * k.hi)⟩:Sn)]).length) 2 none) [(3,⟨[.agg [I k.lo,I k.hi]],2,false⟩),(5,⟨[.agg [I (w64 (yO * k.lo)),I (w64 ((w64 (0 - x.lo)) * k.hi))]],2,false⟩),(6,⟨(yz++[(⟨w64 (yO * k.lo),w64 ((w64 (0 - x.lo)) * k.hi)⟩:Sn)]).map Sn.D,2,false⟩)] 7,.gloop (sd40050 0 1 2 yD yz yO k x) (.exit 0) (sd40017 0 1 2 xk yz yO k x)]

def sd40052 (ν0 ν1 ν2:Nat) (μ0:List Sn) (μ1:List Sn) (μ2:Int) (μ3:Sn):St:=⟨40,[(4,.lsl ν0 0 μ0.length 2 none),(22,.lsl ν1 0 ((μ1++[(⟨w64 (μ2 * μ3.lo),w64 (μ2 * μ3.hi)⟩:Sn)]).length) 2 none),(23,I (((μ1++[(⟨w64 (μ2 * μ3.lo),w64 (μ2 * μ3.hi)⟩:Sn)]).length:Nat):Int)),(24,I 0)],[(ν0,⟨μ0.map Sn.D,2,false⟩),(ν1,⟨(μ1++[(⟨w64 (μ2 * μ3.lo),w64 (μ2 * μ3.hi)⟩:Sn)]).map Sn.D,2,false⟩)],ν2,ν0⟩

def ranges_Times_1_o10 (k:Sn) (yD:List Sn) (xk:List Sn) (yz:List Sn) (yO:Int):List Ora:=[.inl (.lsl 2 0 yD.length 2 none) [(1,⟨[.agg [I k.lo,I k.hi]],2,false⟩),(2,⟨yD.map Sn.D,2,false⟩)] 3,.inl (.lsl 6 0 ((yz++[(⟨w64 (yO * k.lo),w64 (yO * k.hi)⟩:Sn)]).length) 2 none) [(3,⟨[.agg [I k.lo,I k.hi]],2,false⟩),(5,⟨[.agg [I (w64 (yO * k.lo)),I (w64 (yO * k.hi))]],2,false⟩),(6,⟨(yz++[(⟨w64 (yO * k.lo),w64 (yO * k.hi)⟩:Sn)]).map Sn.D,2,false⟩)] 7,.gloop (sd40052 0 1 2 yD yz yO k) (.exit 0) (sd40021 0 1 2 xk yz yO k)]

def sd40054 (ν0 ν1 ν2:Nat) (μ0:List Sn) (μ1:List Sn):St:=⟨40,[(4,.lsl ν0 0 μ0.length 2 none),(22,.lsl ν1 0 μ1.length 2 none),(23,I ((μ1.length:Nat):Int)),(24,I 0)],[(ν0,⟨μ0.map Sn.D,2,false⟩),(ν1,⟨μ1.map Sn.D,2,false⟩)],ν2,ν0⟩

def ranges_Times_1_o11 (k:Sn) (yD:List Sn) (xk:List Sn) (yz:List Sn):List Ora:=[.inl (.lsl 2 0 yD.length 2 none) [(1,⟨[.agg [I k.lo,I k.hi]],2,false⟩),(2,⟨yD.map Sn.D,2,false⟩)] 3,.inl (.lsl 4 0 yz.length 2 none) [(3,⟨[.agg [I k.lo,I k.hi]],2,false⟩),(4,⟨yz.map Sn.D,2,false⟩)] 5,.gloop (sd40054 0 1 2 yD yz) (.exit 0) (sd40013 0 1 2 xk yz)]

def ranges_Times_1_o12 (x:Sn) (k:Sn):List Ora:=[.inl (.lsl 3 0 1 2 none) [(1,⟨[.agg [I k.lo,I k.hi]],2,false⟩),(2,⟨[.agg [I (w64 ((zb x.lo 0) * k.lo)),I (w64 (x.hi * k.hi))]],2,false⟩),(3,⟨[.agg [I (w64 ((zb x.lo 0) * k.lo)),I (w64 (x.hi * k.hi))]],2,false⟩)] 4]

def sd40063 (ν0 ν1 ν2:Nat) (μ0:List Sn) (μ1:Int) (μ2:Sn) (μ3:Sn):St:=⟨40,[(4,.lsl ν0 0 1 2 none),(22,.lsl ν1 0 ((μ0++[(⟨w64 (μ1 * μ2.lo),w64 ((w64 (0 - μ3.lo)) * μ2.hi)⟩:Sn)]).length) 2 none),(23,I (((μ0++[(⟨w64 (μ1 * μ2.lo),w64 ((w64 (0 - μ3.lo)) * μ2.hi)⟩:Sn)]).length:Nat):Int)),(24,I 0)],[(ν0,⟨[.agg [I (w64 ((zb μ3.lo 0) * μ2.lo)),I (w64 (μ3.hi * μ2.hi))]],2,false⟩),(ν1,⟨(μ0++[(⟨w64 (μ1 * μ2.lo),w64 ((w64 (0 - μ3.lo)) * μ2.hi)⟩:Sn)]).map Sn.D,2,false⟩)],ν2,ν0⟩

def ranges_Times_1_o13 (x:Sn) (k:Sn) (yB:List Sn) (yP:Int) (xn:List Sn):List Ora:=[.inl (.lsl 7 0 ((yB++[(⟨w64 (yP * k.lo),w64 ((w64 (0 - x.lo)) * k.hi)⟩:Sn)]).length) 2 none) [(4,⟨[.agg [I k.lo,I k.hi]],2,false⟩),(6,⟨[.agg [I (w64 (yP * k.lo)),I (w64 ((w64 (0 - x.lo)) * k.hi))]],2,false⟩),(7,⟨(yB++[(⟨w64 (yP * k.lo),w64 ((w64 (0 - x.lo)) * k.hi)⟩:Sn)]).map Sn.D,2,false⟩)] 8,.gloop (sd40063 0 1 2 yB yP k x) (.exit 0) (sd40017 0 1 2 xn yB yP k x)]

def sd40065 (ν0 ν1 ν2:Nat) (μ0:List Sn) (μ1:Int) (μ2:Sn) (μ3:Sn):St:=⟨40,[(4,.lsl ν0 0 1 2 none),(22,.lsl ν1 0 ((μ0++[(⟨w64 (μ1 * μ2.lo),w64 (μ1 * μ2.hi)⟩:Sn)]).length) 2 none),(23,I (((μ0++[(⟨w64 (μ1 * μ2.lo),w64 (μ1 * μ2.hi)⟩:Sn)]).length:Nat):Int)),(24,I 0)],[(ν0,⟨[.agg [I (w64 ((zb μ3.lo 0) * μ2.lo)),I (w64 (μ3.hi * μ2.hi))]],2,false⟩),(ν1,⟨(μ0++[(⟨w64 (μ1 * μ2.lo),w64 (μ1 * μ2.hi)⟩:Sn)]).map Sn.D,2,false⟩)],ν2,ν0⟩

def ranges_Times_1_o14 (x:Sn) (k:Sn) (yB:List Sn) (yP:Int) (xn:List Sn):List Ora:=[.inl (.lsl 7 0 ((yB++[(⟨w64 (yP * k.lo),w64 (yP * k.hi)⟩:Sn)]).length) 2 none) [(4,⟨[.agg [I k.lo,I k.hi]],2,false⟩),(6,⟨[.agg [I (w64 (yP * k.lo)),I (w64 (yP * k.hi))]],2,false⟩),(7,⟨(yB++[(⟨w64 (yP * k.lo),w64 (yP * k.hi)⟩:Sn)]).map Sn.D,2,false⟩)] 8,.gloop (sd40065 0 1 2 yB yP k x) (.exit 0) (sd40021 0 1 2 xn yB yP k)]

def sd40067 (ν0 ν1 ν2:Nat) (μ0:List Sn) (μ1:Sn) (μ2:Sn):St:=⟨40,[(4,.lsl ν0 0 1 2 none),(22,.lsl ν1 0 μ0.length 2 none),(23,I ((μ0.length:Nat):Int)),(24,I 0)],[(ν0,⟨[.agg [I (w64 ((zb μ1.lo 0) * μ2.lo)),I (w64 (μ1.hi * μ2.hi))]],2,false⟩),(ν1,⟨μ0.map Sn.D,2,false⟩)],ν2,ν0⟩

def ranges_Times_1_o15 (x:Sn) (k:Sn) (yB:List Sn) (xn:List Sn):List Ora:=[.inl (.lsl 5 0 yB.length 2 none) [(4,⟨[.agg [I k.lo,I k.hi]],2,false⟩),(5,⟨yB.map Sn.D,2,false⟩)] 6,.gloop (sd40067 0 1 2 yB x k) (.exit 0) (sd40013 0 1 2 xn yB)]

def ranges_Times_1_o16 (x:Sn) (k:Sn) (yN:List Sn) (yL:Int):List Ora:=[.inl (.sl true [] 0 none) [(1,⟨[.agg [I k.lo,I k.hi]],2,false⟩)] 2,.inl (.lsl 5 0 ((yN++[(⟨w64 (yL * k.lo),w64 ((w64 (0 - x.lo)) * k.hi)⟩:Sn)]).length) 2 none) [(2,⟨[.agg [I k.lo,I k.hi]],2,false⟩),(4,⟨[.agg [I (w64 (yL * k.lo)),I (w64 ((w64 (0 - x.lo)) * k.hi))]],2,false⟩),(5,⟨(yN++[(⟨w64 (yL * k.lo),w64 ((w64 (0 - x.lo)) * k.hi)⟩:Sn)]).map Sn.D,2,false⟩)] 6]

def ranges_Times_1_o17 (k:Sn) (yN:List Sn) (yL:Int):List Ora:=[.inl (.sl true [] 0 none) [(1,⟨[.agg [I k.lo,I k.hi]],2,false⟩)] 2,.inl (.lsl 5 0 ((yN++[(⟨w64 (yL * k.lo),w64 (yL * k.hi)⟩:Sn)]).length) 2 none) [(2,⟨[.agg [I k.lo,I k.hi]],2,false⟩),(4,⟨[.agg [I (w64 (yL * k.lo)),I (w64 (yL * k.hi))]],2,false⟩),(5,⟨(yN++[(⟨w64 (yL * k.lo),w64 (yL * k.hi)⟩:Sn)]).map Sn.D,2,false⟩)] 6]

def ranges_Times_1_o18 (k:Sn) (yN:List Sn):List Ora:=[.inl (.sl true [] 0 none) [(1,⟨[.agg [I k.lo,I k.hi]],2,false⟩)] 2,.inl (.lsl 3 0 yN.length 2 none) [(2,⟨[.agg [I k.lo,I k.hi]],2,false⟩),(3,⟨yN.map Sn.D,2,false⟩)] 4]

def sd40012 (ν0 ν1 ν2 ν3 ν4:Nat) (μ0:List Sn) (μ1:Int) (μ2:Sn) (μ3:Sn):St:=⟨54,[(6,.lsl ν0 0 ((μ0++[(⟨w64 (μ1 * μ2.lo),w64 ((w64 (0 - μ3.lo)) * μ2.hi)⟩:Sn)]).length) 2 none),(37,.lsl ν0 0 ((μ0++[(⟨w64 (μ1 * μ2.lo),w64 ((w64 (0 - μ3.lo)) * μ2.hi)⟩:Sn)]).length) 2 none),(36,.lsl ν1 0 1 2 (some 1)),(35,.agg [I (w64 (μ1 * μ2.lo)),I (w64 ((w64 (0 - μ3.lo)) * μ2.hi))]),(34,I (w64 ((w64 (0 - μ3.lo)) * μ2.hi))),(33,I μ2.hi),(32,.lref ν2 0 2 1),(31,I (w64 (0 - μ3.lo))),(30,I (w64 (μ1 * μ2.lo))),(29,I μ2.lo),(28,.lref ν2 0 2 0),(27,I μ1),(26,.lsl ν3 0 μ0.length 2 none),(25,B true),(24,I (w64 (μ2.lo - 1))),(23,I μ2.lo),(22,.lref ν2 0 2 0),(21,I (w64 (μ1 * (w64 (μ2.hi - μ2.lo))))),(20,I (w64 (μ2.hi - μ2.lo))),(19,I μ2.lo),(18,.lref ν2 0 2 0),(17,I μ2.hi),(16,.lref ν2 0 2 1),(15,I μ1),(12,B true),(11,I (w64 (0 - μ3.lo))),(10,I μ1),(1,I (w64 (0 - μ3.lo))),(5,.lref ν2 0 2 0),(7,.lsl ν3 0 μ0.length 2 none),(8,I μ1)],[(ν2,⟨[.agg [I μ2.lo,I μ2.hi]],2,false⟩),(ν1,⟨[.agg [I (w64 (μ1 * μ2.lo)),I (w64 ((w64 (0 - μ3.lo)) * μ2.hi))]],2,false⟩),(ν0,⟨(μ0++[(⟨w64 (μ1 * μ2.lo),w64 ((w64 (0 - μ3.lo)) * μ2.hi)⟩:Sn)]).map Sn.D,2,false⟩)],ν4,ν2⟩

def sd40015 (ν0 ν1 ν2 ν3 ν4 ν5 ν6 ν7:Nat) (μ0:List Sn) (μ1:Int) (μ2:Sn) (μ3:Sn) (μ4:List Sn) (μ5:Int):St:=⟨40,[(24,I 0),(23,I (((μ0++[(⟨w64 (μ1 * μ2.lo),w64 ((w64 (0 - μ3.lo)) * μ2.hi)⟩:Sn)]).length:Nat):Int)),(22,.lsl ν0 0 ((μ0++[(⟨w64 (μ1 * μ2.lo),w64 ((w64 (0 - μ3.lo)) * μ2.hi)⟩:Sn)]).length) 2 none),(21,.agg [I μ2.lo,I μ2.hi]),(20,I (w64 (0 - μ3.lo))),(19,I μ3.lo),(18,.lref ν1 0 2 0),(17,I (zb (w64 (0 - μ3.hi)) 0)),(16,I (w64 (0 - μ3.hi))),(15,I μ3.hi),(14,.lref ν1 0 2 1),(4,.lsl ν2 0 ((μ4++[(⟨w64 (μ5 * μ2.lo),w64 (μ3.hi * μ2.hi)⟩:Sn)]).length) 2 none),(13,.lsl ν2 0 ((μ4++[(⟨w64 (μ5 * μ2.lo),w64 (μ3.hi * μ2.hi)⟩:Sn)]).length) 2 none),(12,.agg [I μ2.lo,I μ2.hi]),(11,I μ3.hi),(10,.lref ν1 0 2 1),(9,I (zb μ3.lo 0)),(8,I μ3.lo),(7,.lref ν1 0 2 0),(3,.sl true [] 0 none),(2,.lref ν1 0 2 0),(0,.agg [I μ3.lo,I μ3.hi]),(1,.ptr (.agg [I μ2.lo,I μ2.hi]))],[(ν1,⟨[.agg [I μ3.lo,I μ3.hi]],2,false⟩),(ν3,⟨[.agg [I μ2.lo,I μ2.hi]],2,false⟩),(ν4,⟨[.agg [I (w64 (μ5 * μ2.lo)),I (w64 (μ3.hi * μ2.hi))]],2,false⟩),(ν2,⟨(μ4++[(⟨w64 (μ5 * μ2.lo),w64 (μ3.hi * μ2.hi)⟩:Sn)]).map Sn.D,2,false⟩),(ν5,⟨[.agg [I μ2.lo,I μ2.hi]],2,false⟩),(ν6,⟨[.agg [I (w64 (μ1 * μ2.lo)),I (w64 ((w64 (0 - μ3.lo)) * μ2.hi))]],2,false⟩),(ν0,⟨(μ0++[(⟨w64 (μ1 * μ2.lo),w64 ((w64 (0 - μ3.lo)) * μ2.hi)⟩:Sn)]).map Sn.D,2,false⟩)],ν7,ν1⟩

def sd40018 (ν0 ν1 ν2 ν3 ν4:Nat) (μ0:List Sn) (μ1:Int) (μ2:Sn) (μ3:Sn):St:=⟨54,[(52,B true),(51,I (((μ0++[(⟨w64 (μ1 * μ2.lo),w64 (μ1 * μ2.hi)⟩:Sn)]).length:Nat):Int)),(50,.lsl ν0 0 ((μ0++[(⟨w64 (μ1 * μ2.lo),w64 (μ1 * μ2.hi)⟩:Sn)]).length) 2 none),(7,.lsl ν0 0 ((μ0++[(⟨w64 (μ1 * μ2.lo),w64 (μ1 * μ2.hi)⟩:Sn)]).length) 2 none),(49,.lsl ν0 0 ((μ0++[(⟨w64 (μ1 * μ2.lo),w64 (μ1 * μ2.hi)⟩:Sn)]).length) 2 none),(48,.lsl ν1 0 1 2 (some 1)),(47,.agg [I (w64 (μ1 * μ2.lo)),I (w64 (μ1 * μ2.hi))]),(46,I (w64 (μ1 * μ2.hi))),(45,I μ2.hi),(44,.lref ν2 0 2 1),(43,I μ1),(42,I (w64 (μ1 * μ2.lo))),(41,I μ2.lo),(40,.lref ν2 0 2 0),(39,I μ1),(38,.lsl ν3 0 μ0.length 2 none),(25,B false),(24,I (w64 (μ2.lo - 1))),(23,I μ2.lo),(22,.lref ν2 0 2 0),(21,I (w64 (μ1 * (w64 (μ2.hi - μ2.lo))))),(20,I (w64 (μ2.hi - μ2.lo))),(19,I μ2.lo),(18,.lref ν2 0 2 0),(17,I μ2.hi),(16,.lref ν2 0 2 1),(15,I μ1),(12,B true),(11,I (w64 (0 - μ3.lo))),(10,I μ1),(1,I (w64 (0 - μ3.lo))),(5,.lref ν2 0 2 0),(7,.lsl ν3 0 μ0.length 2 none),(8,I μ1)],[(ν2,⟨[.agg [I μ2.lo,I μ2.hi]],2,false⟩),(ν1,⟨[.agg [I (w64 (μ1 * μ2.lo)),I (w64 (μ1 * μ2.hi))]],2,false⟩),(ν0,⟨(μ0++[(⟨w64 (μ1 * μ2.lo),w64 (μ1 * μ2.hi)⟩:Sn)]).map Sn.D,2,false⟩)],ν4,ν2⟩

def sd40019 (ν0 ν1 ν2 ν3 ν4 ν5 ν6 ν7:Nat) (μ0:List Sn) (μ1:Int) (μ2:Sn) (μ3:Sn) (μ4:List Sn) (μ5:Int):St:=⟨40,[(24,I 0),(23,I (((μ0++[(⟨w64 (μ1 * μ2.lo),w64 (μ1 * μ2.hi)⟩:Sn)]).length:Nat):Int)),(22,.lsl ν0 0 ((μ0++[(⟨w64 (μ1 * μ2.lo),w64 (μ1 * μ2.hi)⟩:Sn)]).length) 2 none),(21,.agg [I μ2.lo,I μ2.hi]),(20,I (w64 (0 - μ3.lo))),(19,I μ3.lo),(18,.lref ν1 0 2 0),(17,I (zb (w64 (0 - μ3.hi)) 0)),(16,I (w64 (0 - μ3.hi))),(15,I μ3.hi),(14,.lref ν1 0 2 1),(4,.lsl ν2 0 ((μ4++[(⟨w64 (μ5 * μ2.lo),w64 (μ3.hi * μ2.hi)⟩:Sn)]).length) 2 none),(13,.lsl ν2 0 ((μ4++[(⟨w64 (μ5 * μ2.lo),w64 (μ3.hi * μ2.hi)⟩:Sn)]).length) 2 none),(12,.agg [I μ2.lo,I μ2.hi]),(11,I μ3.hi),(10,.lref ν1 0 2 1),(9,I (zb μ3.lo 0)),(8,I μ3.lo),(7,.lref ν1 0 2 0),(3,.sl true [] 0 none),(2,.lref ν1 0 2 0),(0,.agg [I μ3.lo,I μ3.hi]),(1,.ptr (.agg [I μ2.lo,I μ2.hi]))],[(ν1,⟨[.agg [I μ3.lo,I μ3.hi]],2,false⟩),(ν3,⟨[.agg [I μ2.lo,I μ2.hi]],2,false⟩),(ν4,⟨[.agg [I (w64 (μ5 * μ2.lo)),I (w64 (μ3.hi * μ2.hi))]],2,false⟩),(ν2,⟨(μ4++[(⟨w64 (μ5 * μ2.lo),w64 (μ3.hi * μ2.hi)⟩:Sn)]).map Sn.D,2,false⟩),(ν5,⟨[.agg [I μ2.lo,I μ2.hi]],2,false⟩),(ν6,⟨[.agg [I (w64 (μ1 * μ2.lo)),I (w64 (μ1 * μ2.hi))]],2,false⟩),(ν0,⟨(μ0++[(⟨w64 (μ1 * μ2.lo),w64 (μ1 * μ2.hi)⟩:Sn)]).map Sn.D,2,false⟩)],ν7,ν1⟩

def sd40022 (ν0 ν1 ν2:Nat) (μ0:Sn) (μ1:Int) (μ2:List Sn) (μ3:Sn):St:=⟨54,[(12,B false),(11,I (w64 (0 - μ0.lo))),(10,I μ1),(1,I (w64 (0 - μ0.lo))),(5,.lref ν0 0 2 0),(7,.lsl ν1 0 μ2.length 2 none),(8,I μ1)],[(ν0,⟨[.agg [I μ3.lo,I μ3.hi]],2,false⟩),(ν1,⟨μ2.map Sn.D,2,false⟩)],ν2,ν0⟩

def sd40023 (ν0 ν1 ν2 ν3 ν4 ν5 ν6:Nat) (μ0:List Sn) (μ1:Sn) (μ2:Sn) (μ3:List Sn) (μ4:Int):St:=⟨40,[(24,I 0),(23,I ((μ0.length:Nat):Int)),(22,.lsl ν0 0 μ0.length 2 none),(21,.agg [I μ1.lo,I μ1.hi]),(20,I (w64 (0 - μ2.lo))),(19,I μ2.lo),(18,.lref ν1 0 2 0),(17,I (zb (w64 (0 - μ2.hi)) 0)),(16,I (w64 (0 - μ2.hi))),(15,I μ2.hi),(14,.lref ν1 0 2 1),(4,.lsl ν2 0 ((μ3++[(⟨w64 (μ4 * μ1.lo),w64 (μ2.hi * μ1.hi)⟩:Sn)]).length) 2 none),(13,.lsl ν2 0 ((μ3++[(⟨w64 (μ4 * μ1.lo),w64 (μ2.hi * μ1.hi)⟩:Sn)]).length) 2 none),(12,.agg [I μ1.lo,I μ1.hi]),(11,I μ2.hi),(10,.lref ν1 0 2 1),(9,I (zb μ2.lo 0)),(8,I μ2.lo),(7,.lref ν1 0 2 0),(3,.sl true [] 0 none),(2,.lref ν1 0 2 0),(0,.agg [I μ2.lo,I μ2.hi]),(1,.ptr (.agg [I μ1.lo,I μ1.hi]))],[(ν1,⟨[.agg [I μ2.lo,I μ2.hi]],2,false⟩),(ν3,⟨[.agg [I μ1.lo,I μ1.hi]],2,false⟩),(ν4,⟨[.agg [I (w64 (μ4 * μ1.lo)),I (w64 (μ2.hi * μ1.hi))]],2,false⟩),(ν2,⟨(μ3++[(⟨w64 (μ4 * μ1.lo),w64 (μ2.hi * μ1.hi)⟩:Sn)]).map Sn.D,2,false⟩),(ν5,⟨[.agg [I μ1.lo,I μ1.hi]],2,false⟩),(ν0,⟨μ0.map Sn.D,2,false⟩)],ν6,ν1⟩

def sd40027 (ν0 ν1 ν2:Nat) (μ0:List Sn) (μ1:Int) (μ2:Sn) (μ3:Sn):St:=⟨40,[(4,.lsl ν0 0 (((μ0++[(⟨w64 (μ1 * μ2.lo),w64 (μ3.hi * μ2.hi)⟩:Sn)])++[(⟨w64 (0 - (w64 ((w64 (0 - μ3.lo)) * μ2.hi))),w64 (0 - (w64 ((zb (w64 (0 - μ3.hi)) 0) * μ2.lo)))⟩:Sn)]).length) 2 none),(22,.lsl ν1 0 1 2 none),(23,I 1),(24,I 1)],[(ν0,⟨((μ0++[(⟨w64 (μ1 * μ2.lo),w64 (μ3.hi * μ2.hi)⟩:Sn)])++[(⟨w64 (0 - (w64 ((w64 (0 - μ3.lo)) * μ2.hi))),w64 (0 - (w64 ((zb (w64 (0 - μ3.hi)) 0) * μ2.lo)))⟩:Sn)]).map Sn.D,2,false⟩),(ν1,⟨[.agg [I (w64 ((zb (w64 (0 - μ3.hi)) 0) * μ2.lo)),I (w64 ((w64 (0 - μ3.lo)) * μ2.hi))]],2,false⟩)],ν2,ν0⟩

def sd40026 (ν0 ν1 ν2:Nat) (μ0:List Sn) (μ1:Int) (μ2:Sn) (μ3:Sn):St:=⟨40,[(4,.lsl ν0 0 ((μ0++[(⟨w64 (μ1 * μ2.lo),w64 (μ3.hi * μ2.hi)⟩:Sn)]).length) 2 none),(22,.lsl ν1 0 1 2 none),(23,I 1),(24,I 0)],[(ν0,⟨(μ0++[(⟨w64 (μ1 * μ2.lo),w64 (μ3.hi * μ2.hi)⟩:Sn)]).map Sn.D,2,false⟩),(ν1,⟨[.agg [I (w64 ((zb (w64 (0 - μ3.hi)) 0) * μ2.lo)),I (w64 ((w64 (0 - μ3.lo)) * μ2.hi))]],2,false⟩)],ν2,ν0⟩

def sd40028 (ν0 ν1 ν2 ν3 ν4 ν5:Nat) (μ0:List Sn) (μ1:Int) (μ2:Sn) (μ3:Sn):St:=⟨40,[(24,I 1),(38,I 1),(4,.lsl ν0 0 (((μ0++[(⟨w64 (μ1 * μ2.lo),w64 (μ3.hi * μ2.hi)⟩:Sn)])++[(⟨w64 (0 - (w64 ((w64 (0 - μ3.lo)) * μ2.hi))),w64 (0 - (w64 ((zb (w64 (0 - μ3.hi)) 0) * μ2.lo)))⟩:Sn)]).length) 2 none),(37,.lsl ν0 0 (((μ0++[(⟨w64 (μ1 * μ2.lo),w64 (μ3.hi * μ2.hi)⟩:Sn)])++[(⟨w64 (0 - (w64 ((w64 (0 - μ3.lo)) * μ2.hi))),w64 (0 - (w64 ((zb (w64 (0 - μ3.hi)) 0) * μ2.lo)))⟩:Sn)]).length) 2 none),(36,.lsl ν1 0 1 2 (some 1)),(35,.agg [I (w64 (0 - (w64 ((w64 (0 - μ3.lo)) * μ2.hi)))),I (w64 (0 - (w64 ((zb (w64 (0 - μ3.hi)) 0) * μ2.lo))))]),(34,I (w64 (0 - (w64 ((zb (w64 (0 - μ3.hi)) 0) * μ2.lo))))),(33,I (w64 ((zb (w64 (0 - μ3.hi)) 0) * μ2.lo))),(32,.lref ν2 0 2 0),(31,I (w64 (0 - (w64 ((w64 (0 - μ3.lo)) * μ2.hi))))),(30,I (w64 ((w64 (0 - μ3.lo)) * μ2.hi))),(29,.lref ν2 0 2 1),(28,.lsl ν3 0 ((μ0++[(⟨w64 (μ1 * μ2.lo),w64 (μ3.hi * μ2.hi)⟩:Sn)]).length) 2 none),(6,.lref ν2 0 2 0),(27,.agg [I (w64 ((zb (w64 (0 - μ3.hi)) 0) * μ2.lo)),I (w64 ((w64 (0 - μ3.lo)) * μ2.hi))]),(26,.lref ν4 0 2 0),(25,B true),(4,.lsl ν3 0 ((μ0++[(⟨w64 (μ1 * μ2.lo),w64 (μ3.hi * μ2.hi)⟩:Sn)]).length) 2 none),(22,.lsl ν4 0 1 2 none),(23,I 1),(24,I 0)],[(ν4,⟨[.agg [I (w64 ((zb (w64 (0 - μ3.hi)) 0) * μ2.lo)),I (w64 ((w64 (0 - μ3.lo)) * μ2.hi))]],2,false⟩),(ν2,⟨[.agg [I (w64 ((zb (w64 (0 - μ3.hi)) 0) * μ2.lo)),I (w64 ((w64 (0 - μ3.lo)) * μ2.hi))]],2,false⟩),(ν1,⟨[.agg [I (w64 (0 - (w64 ((w64 (0 - μ3.lo)) * μ2.hi)))),I (w64 (0 - (w64 ((zb (w64 (0 - μ3.hi)) 0) * μ2.lo))))]],2,false⟩),(ν0,⟨((μ0++[(⟨w64 (μ1 * μ2.lo),w64 (μ3.hi * μ2.hi)⟩:Sn)])++[(⟨w64 (0 - (w64 ((w64 (0 - μ3.lo)) * μ2.hi))),w64 (0 - (w64 ((zb (w64 (0 - μ3.hi)) 0) * μ2.lo)))⟩:Sn)]).map Sn.D,2,false⟩)],ν5,ν3⟩

def sd40029 (ν0 ν1 ν2:Nat) (μ0:List Sn) (μ1:Int) (μ2:Sn) (μ3:Sn):St:=⟨40,[(25,B false),(4,.lsl ν0 0 (((μ0++[(⟨w64 (μ1 * μ2.lo),w64 (μ3.hi * μ2.hi)⟩:Sn)])++[(⟨w64 (0 - (w64 ((w64 (0 - μ3.lo)) * μ2.hi))),w64 (0 - (w64 ((zb (w64 (0 - μ3.hi)) 0) * μ2.lo)))⟩:Sn)]).length) 2 none),(22,.lsl ν1 0 1 2 none),(23,I 1),(24,I 1)],[(ν0,⟨((μ0++[(⟨w64 (μ1 * μ2.lo),w64 (μ3.hi * μ2.hi)⟩:Sn)])++[(⟨w64 (0 - (w64 ((w64 (0 - μ3.lo)) * μ2.hi))),w64 (0 - (w64 ((zb (w64 (0 - μ3.hi)) 0) * μ2.lo)))⟩:Sn)]).map Sn.D,2,false⟩),(ν1,⟨[.agg [I (w64 ((zb (w64 (0 - μ3.hi)) 0) * μ2.lo)),I (w64 ((w64 (0 - μ3.lo)) * μ2.hi))]],2,false⟩)],ν2,ν0⟩

def sd40030 (ν0 ν1 ν2 ν3 ν4 ν5 ν6 ν7:Nat) (μ0:Sn) (μ1:Sn) (μ2:List Sn) (μ3:Int):St:=⟨40,[(24,I 0),(23,I 1),(22,.lsl ν0 0 1 2 none),(21,.agg [I μ0.lo,I μ0.hi]),(20,I (w64 (0 - μ1.lo))),(19,I μ1.lo),(18,.lref ν1 0 2 0),(17,I (zb (w64 (0 - μ1.hi)) 0)),(16,I (w64 (0 - μ1.hi))),(15,I μ1.hi),(14,.lref ν1 0 2 1),(4,.lsl ν2 0 ((μ2++[(⟨w64 (μ3 * μ0.lo),w64 (μ1.hi * μ0.hi)⟩:Sn)]).length) 2 none),(13,.lsl ν2 0 ((μ2++[(⟨w64 (μ3 * μ0.lo),w64 (μ1.hi * μ0.hi)⟩:Sn)]).length) 2 none),(12,.agg [I μ0.lo,I μ0.hi]),(11,I μ1.hi),(10,.lref ν1 0 2 1),(9,I (zb μ1.lo 0)),(8,I μ1.lo),(7,.lref ν1 0 2 0),(3,.sl true [] 0 none),(2,.lref ν1 0 2 0),(0,.agg [I μ1.lo,I μ1.hi]),(1,.ptr (.agg [I μ0.lo,I μ0.hi]))],[(ν1,⟨[.agg [I μ1.lo,I μ1.hi]],2,false⟩),(ν3,⟨[.agg [I μ0.lo,I μ0.hi]],2,false⟩),(ν4,⟨[.agg [I (w64 (μ3 * μ0.lo)),I (w64 (μ1.hi * μ0.hi))]],2,false⟩),(ν2,⟨(μ2++[(⟨w64 (μ3 * μ0.lo),w64 (μ1.hi * μ0.hi)⟩:Sn)]).map Sn.D,2,false⟩),(ν5,⟨[.agg [I μ0.lo,I μ0.hi]],2,false⟩),(ν6,⟨[.agg [I (w64 ((zb (w64 (0 - μ1.hi)) 0) * μ0.lo)),I (w64 ((w64 (0 - μ1.lo)) * μ0.hi))]],2,false⟩),(ν0,⟨[.agg [I (w64 ((zb (w64 (0 - μ1.hi)) 0) * μ0.lo)),I (w64 ((w64 (0 - μ1.lo)) * μ0.hi))]],2,false⟩)],ν7,ν1⟩

def sd40025 (ν0 ν1 ν2 ν3:Nat) (μ0:Sn) (μ1:Sn):St:=⟨54,[(6,.lsl ν0 0 1 2 none),(37,.lsl ν0 0 1 2 none),(36,.lsl ν1 0 1 2 (some 1)),(35,.agg [I (w64 ((zb (w64 (0 - μ0.hi)) 0) * μ1.lo)),I (w64 ((w64 (0 - μ0.lo)) * μ1.hi))]),(34,I (w64 ((w64 (0 - μ0.lo)) * μ1.hi))),(33,I μ1.hi),(32,.lref ν2 0 2 1),(31,I (w64 (0 - μ0.lo))),(30,I (w64 ((zb (w64 (0 - μ0.hi)) 0) * μ1.lo))),(29,I μ1.lo),(28,.lref ν2 0 2 0),(27,I (zb (w64 (0 - μ0.hi)) 0)),(26,.sl true [] 0 none),(25,B true),(24,I (w64 (μ1.lo - 1))),(23,I μ1.lo),(22,.lref ν2 0 2 0),(21,I (w64 ((zb (w64 (0 - μ0.hi)) 0) * (w64 (μ1.hi - μ1.lo))))),(20,I (w64 (μ1.hi - μ1.lo))),(19,I μ1.lo),(18,.lref ν2 0 2 0),(17,I μ1.hi),(16,.lref ν2 0 2 1),(15,I (zb (w64 (0 - μ0.hi)) 0)),(12,B true),(11,I (w64 (0 - μ0.lo))),(10,I (zb (w64 (0 - μ0.hi)) 0)),(1,I (w64 (0 - μ0.lo))),(5,.lref ν2 0 2 0),(7,.sl true [] 0 none),(8,I (zb (w64 (0 - μ0.hi)) 0))],[(ν2,⟨[.agg [I μ1.lo,I μ1.hi]],2,false⟩),(ν1,⟨[.agg [I (w64 ((zb (w64 (0 - μ0.hi)) 0) * μ1.lo)),I (w64 ((w64 (0 - μ0.lo)) * μ1.hi))]],2,false⟩),(ν0,⟨[.agg [I (w64 ((zb (w64 (0 - μ0.hi)) 0) * μ1.lo)),I (w64 ((w64 (0 - μ0.lo)) * μ1.hi))]],2,false⟩)],ν3,ν2⟩

def sd40032 (ν0 ν1:Nat) (μ0:List Sn) (μ1:Int) (μ2:Sn) (μ3:Sn):St:=⟨40,[(4,.lsl ν0 0 ((μ0++[(⟨w64 (μ1 * μ2.lo),w64 (μ3.hi * μ2.hi)⟩:Sn)]).length) 2 none),(22,.sl true [] 0 none),(23,I 0),(24,I 0)],[(ν0,⟨(μ0++[(⟨w64 (μ1 * μ2.lo),w64 (μ3.hi * μ2.hi)⟩:Sn)]).map Sn.D,2,false⟩)],ν1,ν0⟩

def sd40033 (ν0 ν1:Nat) (μ0:List Sn) (μ1:Int) (μ2:Sn) (μ3:Sn):St:=⟨40,[(25,B false),(4,.lsl ν0 0 ((μ0++[(⟨w64 (μ1 * μ2.lo),w64 (μ3.hi * μ2.hi)⟩:Sn)]).length) 2 none),(22,.sl true [] 0 none),(23,I 0),(24,I 0)],[(ν0,⟨(μ0++[(⟨w64 (μ1 * μ2.lo),w64 (μ3.hi * μ2.hi)⟩:Sn)]).map Sn.D,2,false⟩)],ν1,ν0⟩

def sd40034 (ν0 ν1 ν2 ν3 ν4 ν5:Nat) (μ0:Sn) (μ1:Sn) (μ2:List Sn) (μ3:Int):St:=⟨40,[(24,I 0),(23,I 0),(22,.sl true [] 0 none),(21,.agg [I μ0.lo,I μ0.hi]),(20,I (w64 (0 - μ1.lo))),(19,I μ1.lo),(18,.lref ν0 0 2 0),(17,I (zb (w64 (0 - μ1.hi)) 0)),(16,I (w64 (0 - μ1.hi))),(15,I μ1.hi),(14,.lref ν0 0 2 1),(4,.lsl ν1 0 ((μ2++[(⟨w64 (μ3 * μ0.lo),w64 (μ1.hi * μ0.hi)⟩:Sn)]).length) 2 none),(13,.lsl ν1 0 ((μ2++[(⟨w64 (μ3 * μ0.lo),w64 (μ1.hi * μ0.hi)⟩:Sn)]).length) 2 none),(12,.agg [I μ0.lo,I μ0.hi]),(11,I μ1.hi),(10,.lref ν0 0 2 1),(9,I (zb μ1.lo 0)),(8,I μ1.lo),(7,.lref ν0 0 2 0),(3,.sl true [] 0 none),(2,.lref ν0 0 2 0),(0,.agg [I μ1.lo,I μ1.hi]),(1,.ptr (.agg [I μ0.lo,I μ0.hi]))],[(ν0,⟨[.agg [I μ1.lo,I μ1.hi]],2,false⟩),(ν2,⟨[.agg [I μ0.lo,I μ0.hi]],2,false⟩),(ν3,⟨[.agg [I (w64 (μ3 * μ0.lo)),I (w64 (μ1.hi * μ0.hi))]],2,false⟩),(ν1,⟨(μ2++[(⟨w64 (μ3 * μ0.lo),w64 (μ1.hi * μ0.hi)⟩:Sn)]).map Sn.D,2,false⟩),(ν4,⟨[.agg [I μ0.lo,I μ0.hi]],2,false⟩)],ν5,ν0⟩

def sd40031 (ν0 ν1:Nat) (μ0:Sn) (μ1:Sn):St:=⟨54,[(12,B false),(11,I (w64 (0 - μ0.lo))),(10,I (zb (w64 (0 - μ0.hi)) 0)),(1,I (w64 (0 - μ0.lo))),(5,.lref ν0 0 2 0),(7,.sl true [] 0 none),(8,I (zb (w64 (0 - μ0.hi)) 0))],[(ν0,⟨[.agg [I μ1.lo,I μ1.hi]],2,false⟩)],ν1,ν0⟩

def sd40035 (ν0 ν1 ν2 ν3 ν4 ν5 ν6 ν7:Nat) (μ0:List Sn) (μ1:Int) (μ2:Sn) (μ3:Sn) (μ4:List Sn) (μ5:Int):St:=⟨40,[(24,I 0),(23,I (((μ0++[(⟨w64 (μ1 * μ2.lo),w64 ((w64 (0 - μ3.lo)) * μ2.hi)⟩:Sn)]).length:Nat):Int)),(22,.lsl ν0 0 ((μ0++[(⟨w64 (μ1 * μ2.lo),w64 ((w64 (0 - μ3.lo)) * μ2.hi)⟩:Sn)]).length) 2 none),(21,.agg [I μ2.lo,I μ2.hi]),(20,I (w64 (0 - μ3.lo))),(19,I μ3.lo),(18,.lref ν1 0 2 0),(17,I (zb (w64 (0 - μ3.hi)) 0)),(16,I (w64 (0 - μ3.hi))),(15,I μ3.hi),(14,.lref ν1 0 2 1),(4,.lsl ν2 0 ((μ4++[(⟨w64 (μ5 * μ2.lo),w64 (μ5 * μ2.hi)⟩:Sn)]).length) 2 none),(13,.lsl ν2 0 ((μ4++[(⟨w64 (μ5 * μ2.lo),w64 (μ5 * μ2.hi)⟩:Sn)]).length) 2 none),(12,.agg [I μ2.lo,I μ2.hi]),(11,I μ3.hi),(10,.lref ν1 0 2 1),(9,I (zb μ3.lo 0)),(8,I μ3.lo),(7,.lref ν1 0 2 0),(3,.sl true [] 0 none),(2,.lref ν1 0 2 0),(0,.agg [I μ3.lo,I μ3.hi]),(1,.ptr (.agg [I μ2.lo,I μ2.hi]))],[(ν1,⟨[.agg [I μ3.lo,I μ3.hi]],2,false⟩),(ν3,⟨[.agg [I μ2.lo,I μ2.hi]],2,false⟩),(ν4,⟨[.agg [I (w64 (μ5 * μ2.lo)),I (w64 (μ5 * μ2.hi))]],2,false⟩),(ν2,⟨(μ4++[(⟨w64 (μ5 * μ2.lo),w64 (μ5 * μ2.hi)⟩:Sn)]).map Sn.D,2,false⟩),(ν5,⟨[.agg [I μ2.lo,I μ2.hi]],2,false⟩),(ν6,⟨[.agg [I (w64 (μ1 * μ2.lo)),I (w64 ((w64 (0 - μ3.lo)) * μ2.hi))]],2,false⟩),(ν0,⟨(μ0++[(⟨w64 (μ1 * μ2.lo),w64 ((w64 (0 - μ3.lo)) * μ2.hi)⟩:Sn)]).map Sn.D,2,false⟩)],ν7,ν1⟩

def sd40037 (ν0 ν1 ν2 ν3 ν4 ν5 ν6 ν7:Nat) (μ0:List Sn) (μ1:Int) (μ2:Sn) (μ3:Sn) (μ4:List Sn) (μ5:Int):St:=⟨40,[(24,I 0),(23,I (((μ0++[(⟨w64 (μ1 * μ2.lo),w64 (μ1 * μ2.hi)⟩:Sn)]).length:Nat):Int)),(22,.lsl ν0 0 ((μ0++[(⟨w64 (μ1 * μ2.lo),w64 (μ1 * μ2.hi)⟩:Sn)]).length) 2 none),(21,.agg [I μ2.lo,I μ2.hi]),(20,I (w64 (0 - μ3.lo))),(19,I μ3.lo),(18,.lref ν1 0 2 0),(17,I (zb (w64 (0 - μ3.hi)) 0)),(16,I (w64 (0 - μ3.hi))),(15,I μ3.hi),(14,.lref ν1 0 2 1),(4,.lsl ν2 0 ((μ4++[(⟨w64 (μ5 * μ2.lo),w64 (μ5 * μ2.hi)⟩:Sn)]).length) 2 none),(13,.lsl ν2 0 ((μ4++[(⟨w64 (μ5 * μ2.lo),w64 (μ5 * μ2.hi)⟩:Sn)]).length) 2 none),(12,.agg [I μ2.lo,I μ2.hi]),(11,I μ3.hi),(10,.lref ν1 0 2 1),(9,I (zb μ3.lo 0)),(8,I μ3.lo),(7,.lref ν1 0 2 0),(3,.sl true [] 0 none),(2,.lref ν1 0 2 0),(0,.agg [I μ3.lo,I μ3.hi]),(1,.ptr (.agg [I μ2.lo,I μ2.hi]))],[(ν1,⟨[.agg [I μ3.lo,I μ3.hi]],2,false⟩),(ν3,⟨[.agg [I μ2.lo,I μ2.hi]],2,false⟩),(ν4,⟨[.agg [I (w64 (μ5 * μ2.lo)),I (w64 (μ5 * μ2.hi))]],2,false⟩),(ν2,⟨(μ4++[(⟨w64 (μ5 * μ2.lo),w64 (μ5 * μ2.hi)⟩:Sn)]).map Sn.D,2,false⟩),(ν5,⟨[.agg [I μ2.lo,I μ2.hi]],2,false⟩),(ν6,⟨[.agg [I (w64 (μ1 * μ2.lo)),I (w64 (μ1 * μ2.hi))]],2,false⟩),(ν0,⟨(μ0++[(⟨w64 (μ1 * μ2.lo),w64 (μ1 * μ2.hi)⟩:Sn)]).map Sn.D,2,false⟩)],ν7,ν1⟩

def sd40039 (ν0 ν1 ν2 ν3 ν4 ν5 ν6:Nat) (μ0:List Sn) (μ1:Sn) (μ2:Sn) (μ3:List Sn) (μ4:Int):St:=⟨40,[(24,I 0),(23,I ((μ0.length:Nat):Int)),(22,.lsl ν0 0 μ0.length 2 none),(21,.agg [I μ1.lo,I μ1.hi]),(20,I (w64 (0 - μ2.lo))),(19,I μ2.lo),(18,.lref ν1 0 2 0),(17,I (zb (w64 (0 - μ2.hi)) 0)),(16,I (w64 (0 - μ2.hi))),(15,I μ2.hi),(14,.lref ν1 0 2 1),(4,.lsl ν2 0 ((μ3++[(⟨w64 (μ4 * μ1.lo),w64 (μ4 * μ1.hi)⟩:Sn)]).length) 2 none),(13,.lsl ν2 0 ((μ3++[(⟨w64 (μ4 * μ1.lo),w64 (μ4 * μ1.hi)⟩:Sn)]).length) 2 none),(12,.agg [I μ1.lo,I μ1.hi]),(11,I μ2.hi),(10,.lref ν1 0 2 1),(9,I (zb μ2.lo 0)),(8,I μ2.lo),(7,.lref ν1 0 2 0),(3,.sl true [] 0 none),(2,.lref ν1 0 2 0),(0,.agg [I μ2.lo,I μ2.hi]),(1,.ptr (.agg [I μ1.lo,I μ1.hi]))],[(ν1,⟨[.agg [I μ2.lo,I μ2.hi]],2,false⟩),(ν3,⟨[.agg [I μ1.lo,I μ1.hi]],2,false⟩),(ν4,⟨[.agg [I (w64 (μ4 * μ1.lo)),I (w64 (μ4 * μ1.hi))]],2,false⟩),(ν2,⟨(μ3++[(⟨w64 (μ4 * μ1.lo),w64 (μ4 * μ1.hi)⟩:Sn)]).map Sn.D,2,false⟩),(ν5,⟨[.agg [I μ1.lo,I μ1.hi]],2,false⟩),(ν0,⟨μ0.map Sn.D,2,false⟩)],ν6,ν1⟩

def sd40042 (ν0 ν1 ν2:Nat) (μ0:List Sn) (μ1:Int) (μ2:Sn) (μ3:Sn):St:=⟨40,[(4,.lsl ν0 0 (((μ0++[(⟨w64 (μ1 * μ2.lo),w64 (μ1 * μ2.hi)⟩:Sn)])++[(⟨w64 (0 - (w64 ((w64 (0 - μ3.lo)) * μ2.hi))),w64 (0 - (w64 ((zb (w64 (0 - μ3.hi)) 0) * μ2.lo)))⟩:Sn)]).length) 2 none),(22,.lsl ν1 0 1 2 none),(23,I 1),(24,I 1)],[(ν0,⟨((μ0++[(⟨w64 (μ1 * μ2.lo),w64 (μ1 * μ2.hi)⟩:Sn)])++[(⟨w64 (0 - (w64 ((w64 (0 - μ3.lo)) * μ2.hi))),w64 (0 - (w64 ((zb (w64 (0 - μ3.hi)) 0) * μ2.lo)))⟩:Sn)]).map Sn.D,2,false⟩),(ν1,⟨[.agg [I (w64 ((zb (w64 (0 - μ3.hi)) 0) * μ2.lo)),I (w64 ((w64 (0 - μ3.lo)) * μ2.hi))]],2,false⟩)],ν2,ν0⟩

def sd40041 (ν0 ν1 ν2:Nat) (μ0:List Sn) (μ1:Int) (μ2:Sn) (μ3:Sn):St:=⟨40,[(4,.lsl ν0 0 ((μ0++[(⟨w64 (μ1 * μ2.lo),w64 (μ1 * μ2.hi)⟩:Sn)]).length) 2 none),(22,.lsl ν1 0 1 2 none),(23,I 1),(24,I 0)],[(ν0,⟨(μ0++[(⟨w64 (μ1 * μ2.lo),w64 (μ1 * μ2.hi)⟩:Sn)]).map Sn.D,2,false⟩),(ν1,⟨[.agg [I (w64 ((zb (w64 (0 - μ3.hi)) 0) * μ2.lo)),I (w64 ((w64 (0 - μ3.lo)) * μ2.hi))]],2,false⟩)],ν2,ν0⟩

def sd40043 (ν0 ν1 ν2 ν3 ν4 ν5:Nat) (μ0:List Sn) (μ1:Int) (μ2:Sn) (μ3:Sn):St:=⟨40,[(24,I 1),(38,I 1),(4,.lsl ν0 0 (((μ0++[(⟨w64 (μ1 * μ2.lo),w64 (μ1 * μ2.hi)⟩:Sn)])++[(⟨w64 (0 - (w64 ((w64 (0 - μ3.lo)) * μ2.hi))),w64 (0 - (w64 ((zb (w64 (0 - μ3.hi)) 0) * μ2.lo)))⟩:Sn)]).length) 2 none),(37,.lsl ν0 0 (((μ0++[(⟨w64 (μ1 * μ2.lo),w64 (μ1 * μ2.hi)⟩:Sn)])++[(⟨w64 (0 - (w64 ((w64 (0 - μ3.lo)) * μ2.hi))),w64 (0 - (w64 ((zb (w64 (0 - μ3.hi)) 0) * μ2.lo)))⟩:Sn)]).length) 2 none),(36,.lsl ν1 0 1 2 (some 1)),(35,.agg [I (w64 (0 - (w64 ((w64 (0 - μ3.lo)) * μ2.hi)))),I (w64 (0 - (w64 ((zb (w64 (0 - μ3.hi)) 0) * μ2.lo))))]),(34,I (w64 (0 - (w64 ((zb (w64 (0 - μ3.hi)) 0) * μ2.lo))))),(33,I (w64 ((zb (w64 (0 - μ3.hi)) 0) * μ2.lo))),(32,.lref ν2 0 2 0),(31,I (w64 (0 - (w64 ((w64 (0 - μ3.lo)) * μ2.hi))))),(30,I (w64 ((w64 (0 - μ3.lo)) * μ2.hi))),(29,.lref ν2 0 2 1),(28,.lsl ν3 0 ((μ0++[(⟨w64 (μ1 * μ2.lo),w64 (μ1 * μ2.hi)⟩:Sn)]).length) 2 none),(6,.lref ν2 0 2 0),(27,.agg [I (w64 ((zb (w64 (0 - μ3.hi)) 0) * μ2.lo)),I (w64 ((w64 (0 - μ3.lo)) * μ2.hi))]),(26,.lref ν4 0 2 0),(25,B true),(4,.lsl ν3 0 ((μ0++[(⟨w64 (μ1 * μ2.lo),w64 (μ1 * μ2.hi)⟩:Sn)]).length) 2 none),(22,.lsl ν4 0 1 2 none),(23,I 1),(24,I 0)],[(ν4,⟨[.agg [I (w64 ((zb (w64 (0 - μ3.hi)) 0) * μ2.lo)),I (w64 ((w64 (0 - μ3.lo)) * μ2.hi))]],2,false⟩),(ν2,⟨[.agg [I (w64 ((zb (w64 (0 - μ3.hi)) 0) * μ2.lo)),I (w64 ((w64 (0 - μ3.lo)) * μ2.hi))]],2,false⟩),(ν1,⟨[.agg [I (w64 (0 - (w64 ((w64 (0 - μ3.lo)) * μ2.hi)))),I (w64 (0 - (w64 ((zb (w64 (0 - μ3.hi)) 0) * μ2.lo))))]],2,false⟩),(ν0,⟨((μ0++[(⟨w64 (μ1 * μ2.lo),w64 (μ1 * μ2.hi)⟩:Sn)])++[(⟨w64 (0 - (w64 ((w64 (0 - μ3.lo)) * μ2.hi))),w64 (0 - (w64 ((zb (w64 (0 - μ3.hi)) 0) * μ2.lo)))⟩:Sn)]).map Sn.D,2,false⟩)],ν5,ν3⟩

def sd40044 (ν0 ν1 ν2:Nat) (μ0:List Sn) (μ1:Int) (μ2:Sn) (μ3:Sn):St:=⟨40,[(25,B false),(4,.lsl ν0 0 (((μ0++[(⟨w64 (μ1 * μ2.lo),w64 (μ1 * μ2.hi)⟩:Sn)])++[(⟨w64 (0 - (w64 ((w64 (0 - μ3.lo)) * μ2.hi))),w64 (0 - (w64 ((zb (w64 (0 - μ3.hi)) 0) * μ2.lo)))⟩:Sn)]).length) 2 none),(22,.lsl ν1 0 1 2 none),(23,I 1),(24,I 1)],[(ν0,⟨((μ0++[(⟨w64 (μ1 * μ2.lo),w64 (μ1 * μ2.hi)⟩:Sn)])++[(⟨w64 (0 - (w64 ((w64 (0 - μ3.lo)) * μ2.hi))),w64 (0 - (w64 ((zb (w64 (0 - μ3.hi)) 0) * μ2.lo)))⟩:Sn)]).map Sn.D,2,false⟩),(ν1,⟨[.agg [I (w64 ((zb (w64 (0 - μ3.hi)) 0) * μ2.lo)),I (w64 ((w64 (0 - μ3.lo)) * μ2.hi))]],2,false⟩)],ν2,ν0⟩

def sd40045 (ν0 ν1 ν2 ν3 ν4 ν5 ν6 ν7:Nat) (μ0:Sn) (μ1:Sn) (μ2:List Sn) (μ3:Int):St:=⟨40,[(24,I 0),(23,I 1),(22,.lsl ν0 0 1 2 none),(21,.agg [I μ0.lo,I μ0.hi]),(20,I (w64 (0 - μ1.lo))),(19,I μ1.lo),(18,.lref ν1 0 2 0),(17,I (zb (w64 (0 - μ1.hi)) 0)),(16,I (w64 (0 - μ1.hi))),(15,I μ1.hi),(14,.lref ν1 0 2 1),(4,.lsl ν2 0 ((μ2++[(⟨w64 (μ3 * μ0.lo),w64 (μ3 * μ0.hi)⟩:Sn)]).length) 2 none),(13,.lsl ν2 0 ((μ2++[(⟨w64 (μ3 * μ0.lo),w64 (μ3 * μ0.hi)⟩:Sn)]).length) 2 none),(12,.agg [I μ0.lo,I μ0.hi]),(11,I μ1.hi),(10,.lref ν1 0 2 1),(9,I (zb μ1.lo 0)),(8,I μ1.lo),(7,.lref ν1 0 2 0),(3,.sl true [] 0 none),(2,.lref ν1 0 2 0),(0,.agg [I μ1.lo,I μ1.hi]),(1,.ptr (.agg [I μ0.lo,I μ0.hi]))],[(ν1,⟨[.agg [I μ1.lo,I μ1.hi]],2,false⟩),(ν3,⟨[.agg [I μ0.lo,I μ0.hi]],2,false⟩),(ν4,⟨[.agg [I (w64 (μ3 * μ0.lo)),I (w64 (μ3 * μ0.hi))]],2,false⟩),(ν2,⟨(μ2++[(⟨w64 (μ3 * μ0.lo),w64 (μ3 * μ0.hi)⟩:Sn)]).map Sn.D,2,false⟩),(ν5,⟨[.agg [I μ0.lo,I μ0.hi]],2,false⟩),(ν6,⟨[.agg [I (w64 ((zb (w64 (0 - μ1.hi)) 0) * μ0.lo)),I (w64 ((w64 (0 - μ1.lo)) * μ0.hi))]],2,false⟩),(ν0,⟨[.agg [I (w64 ((zb (w64 (0 - μ1.hi)) 0) * μ0.lo)),I (w64 ((w64 (0 - μ1.lo)) * μ0.hi))]],2,false⟩)],ν7,ν1⟩

def sd40046 (ν0 ν1:Nat) (μ0:List Sn) (μ1:Int) (μ2:Sn):St:=⟨40,[(4,.lsl ν0 0 ((μ0++[(⟨w64 (μ1 * μ2.lo),w64 (μ1 * μ2.hi)⟩:Sn)]).length) 2 none),(22,.sl true [] 0 none),(23,I 0),(24,I 0)],[(ν0,⟨(μ0++[(⟨w64 (μ1 * μ2.lo),w64 (μ1 * μ2.hi)⟩:Sn)]).map Sn.D,2,false⟩)],ν1,ν0⟩

def sd40047 (ν0 ν1:Nat) (μ0:List Sn) (μ1:Int) (μ2:Sn):St:=⟨40,[(25,B false),(4,.lsl ν0 0 ((μ0++[(⟨w64 (μ1 * μ2.lo),w64 (μ1 * μ2.hi)⟩:Sn)]).length) 2 none),(22,.sl true [] 0 none),(23,I 0),(24,I 0)],[(ν0,⟨(μ0++[(⟨w64 (μ1 * μ2.lo),w64 (μ1 * μ2.hi)⟩:Sn)]).map Sn.D,2,false⟩)],ν1,ν0⟩

def sd40048 (ν0 ν1 ν2 ν3 ν4 ν5:Nat) (μ0:Sn) (μ1:Sn) (μ2:List Sn) (μ3:Int):St:=⟨40,[(24,I 0),(23,I 0),(22,.sl true [] 0 none),(21,.agg [I μ0.lo,I μ0.hi]),(20,I (w64 (0 - μ1.lo))),(19,I μ1.lo),(18,.lref ν0 0 2 0),(17,I (zb (w64 (0 - μ1.hi)) 0)),(16,I (w64 (0 - μ1.hi))),(15,I μ1.hi),(14,.lref ν0 0 2 1),(4,.lsl ν1 0 ((μ2++[(⟨w64 (μ3 * μ0.lo),w64 (μ3 * μ0.hi)⟩:Sn)]).length) 2 none),(13,.lsl ν1 0 ((μ2++[(⟨w64 (μ3 * μ0.lo),w64 (μ3 * μ0.hi)⟩:Sn)]).length) 2 none),(12,.agg [I μ0.lo,I μ0.hi]),(11,I μ1.hi),(10,.lref ν0 0 2 1),(9,I (zb μ1.lo 0)),(8,I μ1.lo),(7,.lref ν0 0 2 0),(3,.sl true [] 0 none),(2,.lref ν0 0 2 0),(0,.agg [I μ1.lo,I μ1.hi]),(1,.ptr (.agg [I μ0.lo,I μ0.hi]))],[(ν0,⟨[.agg [I μ1.lo,I μ1.hi]],2,false⟩),(ν2,⟨[.agg [I μ0.lo,I μ0.hi]],2,false⟩),(ν3,⟨[.agg [I (w64 (μ3 * μ0.lo)),I (w64 (μ3 * μ0.hi))]],2,false⟩),(ν1,⟨(μ2++[(⟨w64 (μ3 * μ0.lo),w64 (μ3 * μ0.hi)⟩:Sn)]).map Sn.D,2,false⟩),(ν4,⟨[.agg [I μ0.lo,I μ0.hi]],2,false⟩)],ν5,ν0⟩

def sd40049 (ν0 ν1 ν2 ν3 ν4 ν5 ν6:Nat) (μ0:List Sn) (μ1:Int) (μ2:Sn) (μ3:Sn) (μ4:List Sn):St:=⟨40,[(24,I 0),(23,I (((μ0++[(⟨w64 (μ1 * μ2.lo),w64 ((w64 (0 - μ3.lo)) * μ2.hi)⟩:Sn)]).length:Nat):Int)),(22,.lsl ν0 0 ((μ0++[(⟨w64 (μ1 * μ2.lo),w64 ((w64 (0 - μ3.lo)) * μ2.hi)⟩:Sn)]).length) 2 none),(21,.agg [I μ2.lo,I μ2.hi]),(20,I (w64 (0 - μ3.lo))),(19,I μ3.lo),(18,.lref ν1 0 2 0),(17,I (zb (w64 (0 - μ3.hi)) 0)),(16,I (w64 (0 - μ3.hi))),(15,I μ3.hi),(14,.lref ν1 0 2 1),(4,.lsl ν2 0 μ4.length 2 none),(13,.lsl ν2 0 μ4.length 2 none),(12,.agg [I μ2.lo,I μ2.hi]),(11,I μ3.hi),(10,.lref ν1 0 2 1),(9,I (zb μ3.lo 0)),(8,I μ3.lo),(7,.lref ν1 0 2 0),(3,.sl true [] 0 none),(2,.lref ν1 0 2 0),(0,.agg [I μ3.lo,I μ3.hi]),(1,.ptr (.agg [I μ2.lo,I μ2.hi]))],[(ν1,⟨[.agg [I μ3.lo,I μ3.hi]],2,false⟩),(ν3,⟨[.agg [I μ2.lo,I μ2.hi]],2,false⟩),(ν2,⟨μ4.map Sn.D,2,false⟩),(ν4,⟨[.agg [I μ2.lo,I μ2.hi]],2,false⟩),(ν5,⟨[.agg [I (w64 (μ1 * μ2.lo)),I (w64 ((w64 (0 - μ3.lo)) * μ2.hi))]],2,false⟩),(ν0,⟨(μ0++[(⟨w64 (μ1 * μ2.lo),w64 ((w64 (0 - μ3.lo)) * μ2.hi)⟩:Sn)]).map Sn.D,2,false⟩)],ν6,ν1⟩

def sd40051 (ν0 ν1 ν2 ν3 ν4 ν5 ν6:Nat) (μ0:List Sn) (μ1:Int) (μ2:Sn) (μ3:Sn) (μ4:List Sn):St:=⟨40,[(24,I 0),(23,I (((μ0++[(⟨w64 (μ1 * μ2.lo),w64 (μ1 * μ2.hi)⟩:Sn)]).length:Nat):Int)),(22,.lsl ν0 0 ((μ0++[(⟨w64 (μ1 * μ2.lo),w64 (μ1 * μ2.hi)⟩:Sn)]).length) 2 none),(21,.agg [I μ2.lo,I μ2.hi]),(20,I (w64 (0 - μ3.lo))),(19,I μ3.lo),(18,.lref ν1 0 2 0),(17,I (zb (w64 (0 - μ3.hi)) 0)),(16,I (w64 (0 - μ3.hi))),(15,I μ3.hi),(14,.lref ν1 0 2 1),(4,.lsl ν2 0 μ4.length 2 none),(13,.lsl ν2 0 μ4.length 2 none),(12,.agg [I μ2.lo,I μ2.hi]),(11,I μ3.hi),(10,.lref ν1 0 2 1),(9,I (zb μ3.lo 0)),(8,I μ3.lo),(7,.lref ν1 0 2 0),(3,.sl true [] 0 none),(2,.lref ν1 0 2 0),(0,.agg [I μ3.lo,I μ3.hi]),(1,.ptr (.agg [I μ2.lo,I μ2.hi]))],[(ν1,⟨[.agg [I μ3.lo,I μ3.hi]],2,false⟩),(ν3,⟨[.agg [I μ2.lo,I μ2.hi]],2,false⟩),(ν2,⟨μ4.map Sn.D,2,false⟩),(ν4,⟨[.agg [I μ2.lo,I μ2.hi]],2,false⟩),(ν5,⟨[.agg [I (w64 (μ1 * μ2.lo)),I (w64 (μ1 * μ2.hi))]],2,false⟩),(ν0,⟨(μ0++[(⟨w64 (μ1 * μ2.lo),w64 (μ1 * μ2.hi)⟩:Sn)]).map Sn.D,2,false⟩)],ν6,ν1⟩

def sd40053 (ν0 ν1 ν2 ν3 ν4 ν5:Nat) (μ0:List Sn) (μ1:Sn) (μ2:Sn) (μ3:List Sn):St:=⟨40,[(24,I 0),(23,I ((μ0.length:Nat):Int)),(22,.lsl ν0 0 μ0.length 2 none),(21,.agg [I μ1.lo,I μ1.hi]),(20,I (w64 (0 - μ2.lo))),(19,I μ2.lo),(18,.lref ν1 0 2 0),(17,I (zb (w64 (0 - μ2.hi)) 0)),(16,I (w64 (0 - μ2.hi))),(15,I μ2.hi),(14,.lref ν1 0 2 1),(4,.lsl ν2 0 μ3.length 2 none),(13,.lsl ν2 0 μ3.length 2 none),(12,.agg [I μ1.lo,I μ1.hi]),(11,I μ2.hi),(10,.lref ν1 0 2 1),(9,I (zb μ2.lo 0)),(8,I μ2.lo),(7,.lref ν1 0 2 0),(3,.sl true [] 0 none),(2,.lref ν1 0 2 0),(0,.agg [I μ2.lo,I μ2.hi]),(1,.ptr (.agg [I μ1.lo,I μ1.hi]))],[(ν1,⟨[.agg [I μ2.lo,I μ2.hi]],2,false⟩),(ν3,⟨[.agg [I μ1.lo,I μ1.hi]],2,false⟩),(ν2,⟨μ3.map Sn.D,2,false⟩),(ν4,⟨[.agg [I μ1.lo,I μ1.hi]],2,false⟩),(ν0,⟨μ0.map Sn.D,2,false⟩)],ν5,ν1⟩

def sd40056 (ν0 ν1 ν2:Nat) (μ0:List Sn) (μ1:Sn) (μ2:Sn):St:=⟨40,[(4,.lsl ν0 0 ((μ0++[(⟨w64 (0 - (w64 ((w64 (0 - μ1.lo)) * μ2.hi))),w64 (0 - (w64 ((zb (w64 (0 - μ1.hi)) 0) * μ2.lo)))⟩:Sn)]).length) 2 none),(22,.lsl ν1 0 1 2 none),(23,I 1),(24,I 1)],[(ν0,⟨(μ0++[(⟨w64 (0 - (w64 ((w64 (0 - μ1.lo)) * μ2.hi))),w64 (0 - (w64 ((zb (w64 (0 - μ1.hi)) 0) * μ2.lo)))⟩:Sn)]).map Sn.D,2,false⟩),(ν1,⟨[.agg [I (w64 ((zb (w64 (0 - μ1.hi)) 0) * μ2.lo)),I (w64 ((w64 (0 - μ1.lo)) * μ2.hi))]],2,false⟩)],ν2,ν0⟩

def sd40055 (ν0 ν1 ν2:Nat) (μ0:List Sn) (μ1:Sn) (μ2:Sn):St:=⟨40,[(4,.lsl ν0 0 μ0.length 2 none),(22,.lsl ν1 0 1 2 none),(23,I 1),(24,I 0)],[(ν0,⟨μ0.map Sn.D,2,false⟩),(ν1,⟨[.agg [I (w64 ((zb (w64 (0 - μ1.hi)) 0) * μ2.lo)),I (w64 ((w64 (0 - μ1.lo)) * μ2.hi))]],2,false⟩)],ν2,ν0⟩

def sd40057 (ν0 ν1 ν2 ν3 ν4 ν5:Nat) (μ0:List Sn) (μ1:Sn) (μ2:Sn):St:=⟨40,[(24,I 1),(38,I 1),(4,.lsl ν0 0 ((μ0++[(⟨w64 (0 - (w64 ((w64 (0 - μ1.lo)) * μ2.hi))),w64 (0 - (w64 ((zb (w64 (0 - μ1.hi)) 0) * μ2.lo)))⟩:Sn)]).length) 2 none),(37,.lsl ν0 0 ((μ0++[(⟨w64 (0 - (w64 ((w64 (0 - μ1.lo)) * μ2.hi))),w64 (0 - (w64 ((zb (w64 (0 - μ1.hi)) 0) * μ2.lo)))⟩:Sn)]).length) 2 none),(36,.lsl ν1 0 1 2 (some 1)),(35,.agg [I (w64 (0 - (w64 ((w64 (0 - μ1.lo)) * μ2.hi)))),I (w64 (0 - (w64 ((zb (w64 (0 - μ1.hi)) 0) * μ2.lo))))]),(34,I (w64 (0 - (w64 ((zb (w64 (0 - μ1.hi)) 0) * μ2.lo))))),(33,I (w64 ((zb (w64 (0 - μ1.hi)) 0) * μ2.lo))),(32,.lref ν2 0 2 0),(31,I (w64 (0 - (w64 ((w64 (0 - μ1.lo)) * μ2.hi))))),(30,I (w64 ((w64 (0 - μ1.lo)) * μ2.hi))),(29,.lref ν2 0 2 1),(28,.lsl ν3 0 μ0.length 2 none),(6,.lref ν2 0 2 0),(27,.agg [I (w64 ((zb (w64 (0 - μ1.hi)) 0) * μ2.lo)),I (w64 ((w64 (0 - μ1.lo)) * μ2.hi))]),(26,.lref ν4 0 2 0),(25,B true),(4,.lsl ν3 0 μ0.length 2 none),(22,.lsl ν4 0 1 2 none),(23,I 1),(24,I 0)],[(ν4,⟨[.agg [I (w64 ((zb (w64 (0 - μ1.hi)) 0) * μ2.lo)),I (w64 ((w64 (0 - μ1.lo)) * μ2.hi))]],2,false⟩),(ν2,⟨[.agg [I (w64 ((zb (w64 (0 - μ1.hi)) 0) * μ2.lo)),I (w64 ((w64 (0 - μ1.lo)) * μ2.hi))]],2,false⟩),(ν1,⟨[.agg [I (w64 (0 - (w64 ((w64 (0 - μ1.lo)) * μ2.hi)))),I (w64 (0 - (w64 ((zb (w64 (0 - μ1.hi)) 0) * μ2.lo))))]],2,false⟩),(ν0,⟨(μ0++[(⟨w64 (0 - (w64 ((w64 (0 - μ1.lo)) * μ2.hi))),w64 (0 - (w64 ((zb (w64 (0 - μ1.hi)) 0) * μ2.lo)))⟩:Sn)]).map Sn.D,2,false⟩)],ν5,ν3⟩

def sd40058 (ν0 ν1 ν2:Nat) (μ0:List Sn) (μ1:Sn) (μ2:Sn):St:=⟨40,[(25,B false),(4,.lsl ν0 0 ((μ0++[(⟨w64 (0 - (w64 ((w64 (0 - μ1.lo)) * μ2.hi))),w64 (0 - (w64 ((zb (w64 (0 - μ1.hi)) 0) * μ2.lo)))⟩:Sn)]).length) 2 none),(22,.lsl ν1 0 1 2 none),(23,I 1),(24,I 1)],[(ν0,⟨(μ0++[(⟨w64 (0 - (w64 ((w64 (0 - μ1.lo)) * μ2.hi))),w64 (0 - (w64 ((zb (w64 (0 - μ1.hi)) 0) * μ2.lo)))⟩:Sn)]).map Sn.D,2,false⟩),(ν1,⟨[.agg [I (w64 ((zb (w64 (0 - μ1.hi)) 0) * μ2.lo)),I (w64 ((w64 (0 - μ1.lo)) * μ2.hi))]],2,false⟩)],ν2,ν0⟩

def sd40059 (ν0 ν1 ν2 ν3 ν4 ν5 ν6:Nat) (μ0:Sn) (μ1:Sn) (μ2:List Sn):St:=⟨40,[(24,I 0),(23,I 1),(22,.lsl ν0 0 1 2 none),(21,.agg [I μ0.lo,I μ0.hi]),(20,I (w64 (0 - μ1.lo))),(19,I μ1.lo),(18,.lref ν1 0 2 0),(17,I (zb (w64 (0 - μ1.hi)) 0)),(16,I (w64 (0 - μ1.hi))),(15,I μ1.hi),(14,.lref ν1 0 2 1),(4,.lsl ν2 0 μ2.length 2 none),(13,.lsl ν2 0 μ2.length 2 none),(12,.agg [I μ0.lo,I μ0.hi]),(11,I μ1.hi),(10,.lref ν1 0 2 1),(9,I (zb μ1.lo 0)),(8,I μ1.lo),(7,.lref ν1 0 2 0),(3,.sl true [] 0 none),(2,.lref ν1 0 2 0),(0,.agg [I μ1.lo,I μ1.hi]),(1,.ptr (.agg [I μ0.lo,I μ0.hi]))],[(ν1,⟨[.agg [I μ1.lo,I μ1.hi]],2,false⟩),(ν3,⟨[.agg [I μ0.lo,I μ0.hi]],2,false⟩),(ν2,⟨μ2.map Sn.D,2,false⟩),(ν4,⟨[.agg [I μ0.lo,I μ0.hi]],2,false⟩),(ν5,⟨[.agg [I (w64 ((zb (w64 (0 - μ1.hi)) 0) * μ0.lo)),I (w64 ((w64 (0 - μ1.lo)) * μ0.hi))]],2,false⟩),(ν0,⟨[.agg [I (w64 ((zb (w64 (0 - μ1.hi)) 0) * μ0.lo)),I (w64 ((w64 (0 - μ1.lo)) * μ0.hi))]],2,false⟩)],ν6,ν1⟩

def sd40060 (ν0 ν1 ν2 ν3 ν4:Nat) (μ0:Sn) (μ1:Sn) (μ2:List Sn):St:=⟨40,[(24,I 0),(23,I 0),(22,.sl true [] 0 none),(21,.agg [I μ0.lo,I μ0.hi]),(20,I (w64 (0 - μ1.lo))),(19,I μ1.lo),(18,.lref ν0 0 2 0),(17,I (zb (w64 (0 - μ1.hi)) 0)),(16,I (w64 (0 - μ1.hi))),(15,I μ1.hi),(14,.lref ν0 0 2 1),(4,.lsl ν1 0 μ2.length 2 none),(13,.lsl ν1 0 μ2.length 2 none),(12,.agg [I μ0.lo,I μ0.hi]),(11,I μ1.hi),(10,.lref ν0 0 2 1),(9,I (zb μ1.lo 0)),(8,I μ1.lo),(7,.lref ν0 0 2 0),(3,.sl true [] 0 none),(2,.lref ν0 0 2 0),(0,.agg [I μ1.lo,I μ1.hi]),(1,.ptr (.agg [I μ0.lo,I μ0.hi]))],[(ν0,⟨[.agg [I μ1.lo,I μ1.hi]],2,false⟩),(ν2,⟨[.agg [I μ0.lo,I μ0.hi]],2,false⟩),(ν1,⟨μ2.map Sn.D,2,false⟩),(ν3,⟨[.agg [I μ0.lo,I μ0.hi]],2,false⟩)],ν4,ν0⟩

def sd40061 (ν0 ν1 ν2 ν3:Nat) (μ0:Sn) (μ1:Sn):St:=⟨54,[(6,.lsl ν0 0 1 2 none),(37,.lsl ν0 0 1 2 none),(36,.lsl ν1 0 1 2 (some 1)),(35,.agg [I (w64 ((zb μ0.lo 0) * μ1.lo)),I (w64 (μ0.hi * μ1.hi))]),(34,I (w64 (μ0.hi * μ1.hi))),(33,I μ1.hi),(32,.lref ν2 0 2 1),(31,I μ0.hi),(30,I (w64 ((zb μ0.lo 0) * μ1.lo))),(29,I μ1.lo),(28,.lref ν2 0 2 0),(27,I (zb μ0.lo 0)),(26,.sl true [] 0 none),(25,B true),(24,I (w64 (μ1.lo - 1))),(23,I μ1.lo),(22,.lref ν2 0 2 0),(21,I (w64 ((zb μ0.lo 0) * (w64 (μ1.hi - μ1.lo))))),(20,I (w64 (μ1.hi - μ1.lo))),(19,I μ1.lo),(18,.lref ν2 0 2 0),(17,I μ1.hi),(16,.lref ν2 0 2 1),(15,I (zb μ0.lo 0)),(12,B true),(11,I μ0.hi),(10,I (zb μ0.lo 0)),(1,I μ0.hi),(5,.lref ν2 0 2 0),(7,.sl true [] 0 none),(8,I (zb μ0.lo 0))],[(ν2,⟨[.agg [I μ1.lo,I μ1.hi]],2,false⟩),(ν1,⟨[.agg [I (w64 ((zb μ0.lo 0) * μ1.lo)),I (w64 (μ0.hi * μ1.hi))]],2,false⟩),(ν0,⟨[.agg [I (w64 ((zb μ0.lo 0) * μ1.lo)),I (w64 (μ0.hi * μ1.hi))]],2,false⟩)],ν3,ν2⟩

def sd40062 (ν0 ν1 ν2 ν3 ν4 ν5 ν6 ν7:Nat) (μ0:List Sn) (μ1:Int) (μ2:Sn) (μ3:Sn):St:=⟨40,[(24,I 0),(23,I (((μ0++[(⟨w64 (μ1 * μ2.lo),w64 ((w64 (0 - μ3.lo)) * μ2.hi)⟩:Sn)]).length:Nat):Int)),(22,.lsl ν0 0 ((μ0++[(⟨w64 (μ1 * μ2.lo),w64 ((w64 (0 - μ3.lo)) * μ2.hi)⟩:Sn)]).length) 2 none),(21,.agg [I μ2.lo,I μ2.hi]),(20,I (w64 (0 - μ3.lo))),(19,I μ3.lo),(18,.lref ν1 0 2 0),(17,I (zb (w64 (0 - μ3.hi)) 0)),(16,I (w64 (0 - μ3.hi))),(15,I μ3.hi),(14,.lref ν1 0 2 1),(4,.lsl ν2 0 1 2 none),(13,.lsl ν2 0 1 2 none),(12,.agg [I μ2.lo,I μ2.hi]),(11,I μ3.hi),(10,.lref ν1 0 2 1),(9,I (zb μ3.lo 0)),(8,I μ3.lo),(7,.lref ν1 0 2 0),(3,.sl true [] 0 none),(2,.lref ν1 0 2 0),(0,.agg [I μ3.lo,I μ3.hi]),(1,.ptr (.agg [I μ2.lo,I μ2.hi]))],[(ν1,⟨[.agg [I μ3.lo,I μ3.hi]],2,false⟩),(ν3,⟨[.agg [I μ2.lo,I μ2.hi]],2,false⟩),(ν4,⟨[.agg [I (w64 ((zb μ3.lo 0) * μ2.lo)),I (w64 (μ3.hi * μ2.hi))]],2,false⟩),(ν2,⟨[.agg [I (w64 ((zb μ3.lo 0) * μ2.lo)),I (w64 (μ3.hi * μ2.hi))]],2,false⟩),(ν5,⟨[.agg [I μ2.lo,I μ2.hi]],2,false⟩),(ν6,⟨[.agg [I (w64 (μ1 * μ2.lo)),I (w64 ((w64 (0 - μ3.lo)) * μ2.hi))]],2,false⟩),(ν0,⟨(μ0++[(⟨w64 (μ1 * μ2.lo),w64 ((w64 (0 - μ3.lo)) * μ2.hi)⟩:Sn)]).map Sn.D,2,false⟩)],ν7,ν1⟩

def sd40064 (ν0 ν1 ν2 ν3 ν4 ν5 ν6 ν7:Nat) (μ0:List Sn) (μ1:Int) (μ2:Sn) (μ3:Sn):St:=⟨40,[(24,I 0),(23,I (((μ0++[(⟨w64 (μ1 * μ2.lo),w64 (μ1 * μ2.hi)⟩:Sn)]).length:Nat):Int)),(22,.lsl ν0 0 ((μ0++[(⟨w64 (μ1 * μ2.lo),w64 (μ1 * μ2.hi)⟩:Sn)]).length) 2 none),(21,.agg [I μ2.lo,I μ2.hi]),(20,I (w64 (0 - μ3.lo))),(19,I μ3.lo),(18,.lref ν1 0 2 0),(17,I (zb (w64 (0 - μ3.hi)) 0)),(16,I (w64 (0 - μ3.hi))),(15,I μ3.hi),(14,.lref ν1 0 2 1),(4,.lsl ν2 0 1 2 none),(13,.lsl ν2 0 1 2 none),(12,.agg [I μ2.lo,I μ2.hi]),(11,I μ3.hi),(10,.lref ν1 0 2 1),(9,I (zb μ3.lo 0)),(8,I μ3.lo),(7,.lref ν1 0 2 0),(3,.sl true [] 0 none),(2,.lref ν1 0 2 0),(0,.agg [I μ3.lo,I μ3.hi]),(1,.ptr (.agg [I μ2.lo,I μ2.hi]))],[(ν1,⟨[.agg [I μ3.lo,I μ3.hi]],2,false⟩),(ν3,⟨[.agg [I μ2.lo,I μ2.hi]],2,false⟩),(ν4,⟨[.agg [I (w64 ((zb μ3.lo 0) * μ2.lo)),I (w64 (μ3.hi * μ2.hi))]],2,false⟩),(ν2,⟨[.agg [I (w64 ((zb μ3.lo 0) * μ2.lo)),I (w64 (μ3.hi * μ2.hi))]],2,false⟩),(ν5,⟨[.agg [I μ2.lo,I μ2.hi]],2,false⟩),(ν6,⟨[.agg [I (w64 (μ1 * μ2.lo)),I (w64 (μ1 * μ2.hi))]],2,false⟩),(ν0,⟨(μ0++[(⟨w64 (μ1 * μ2.lo),w64 (μ1 * μ2.hi)⟩:Sn)]).map Sn.D,2,false⟩)],ν7,ν1⟩

def sd40066 (ν0 ν1 ν2 ν3 ν4 ν5 ν6:Nat) (μ0:List Sn) (μ1:Sn) (μ2:Sn):St:=⟨40,[(24,I 0),(23,I ((μ0.length:Nat):Int)),(22,.lsl ν0 0 μ0.length 2 none),(21,.agg [I μ1.lo,I μ1.hi]),(20,I (w64 (0 - μ2.lo))),(19,I μ2.lo),(18,.lref ν1 0 2 0),(17,I (zb (w64 (0 - μ2.hi)) 0)),(16,I (w64 (0 - μ2.hi))),(15,I μ2.hi),(14,.lref ν1 0 2 1),(4,.lsl ν2 0 1 2 none),(13,.lsl ν2 0 1 2 none),(12,.agg [I μ1.lo,I μ1.hi]),(11,I μ2.hi),(10,.lref ν1 0 2 1),(9,I (zb μ2.lo 0)),(8,I μ2.lo),(7,.lref ν1 0 2 0),(3,.sl true [] 0 none),(2,.lref ν1 0 2 0),(0,.agg [I μ2.lo,I μ2.hi]),(1,.ptr (.agg [I μ1.lo,I μ1.hi]))],[(ν1,⟨[.agg [I μ2.lo,I μ2.hi]],2,false⟩),(ν3,⟨[.agg [I μ1.lo,I μ1.hi]],2,false⟩),(ν4,⟨[.agg [I (w64 ((zb μ2.lo 0) * μ1.lo)),I (w64 (μ2.hi * μ1.hi))]],2,false⟩),(ν2,⟨[.agg [I (w64 ((zb μ2.lo 0) * μ1.lo)),I (w64 (μ2.hi * μ1.hi))]],2,false⟩),(ν5,⟨[.agg [I μ1.lo,I μ1.hi]],2,false⟩),(ν0,⟨μ0.map Sn.D,2,false⟩)],ν6,ν1⟩

def sd40069 (ν0 ν1 ν2:Nat) (μ0:Sn) (μ1:Sn):St:=⟨40,[(4,.lsl ν0 0 2 2 none),(22,.lsl ν1 0 1 2 none),(23,I 1),(24,I 1)],[(ν0,⟨[.agg [I (w64 ((zb μ0.lo 0) * μ1.lo)),I (w64 (μ0.hi * μ1.hi))],.agg [I (w64 (0 - (w64 ((w64 (0 - μ0.lo)) * μ1.hi)))),I (w64 (0 - (w64 ((zb (w64 (0 - μ0.hi)) 0) * μ1.lo))))]],2,false⟩),(ν1,⟨[.agg [I (w64 ((zb (w64 (0 - μ0.hi)) 0) * μ1.lo)),I (w64 ((w64 (0 - μ0.lo)) * μ1.hi))]],2,false⟩)],ν2,ν0⟩

def sd40068 (ν0 ν1 ν2:Nat) (μ0:Sn) (μ1:Sn):St:=⟨40,[(4,.lsl ν0 0 1 2 none),(22,.lsl ν1 0 1 2 none),(23,I 1),(24,I 0)],[(ν0,⟨[.agg [I (w64 ((zb μ0.lo 0) * μ1.lo)),I (w64 (μ0.hi * μ1.hi))]],2,false⟩),(ν1,⟨[.agg [I (w64 ((zb (w64 (0 - μ0.hi)) 0) * μ1.lo)),I (w64 ((w64 (0 - μ0.lo)) * μ1.hi))]],2,false⟩)],ν2,ν0⟩

def sd40070 (ν0 ν1 ν2:Nat) (μ0:Sn) (μ1:Sn):St:=⟨40,[(25,B false),(4,.lsl ν0 0 2 2 none),(22,.lsl ν1 0 1 2 none),(23,I 1),(24,I 1)],[(ν0,⟨[.agg [I (w64 ((zb μ0.lo 0) * μ1.lo)),I (w64 (μ0.hi * μ1.hi))],.agg [I (w64 (0 - (w64 ((w64 (0 - μ0.lo)) * μ1.hi)))),I (w64 (0 - (w64 ((zb (w64 (0 - μ0.hi)) 0) * μ1.lo))))]],2,false⟩),(ν1,⟨[.agg [I (w64 ((zb (w64 (0 - μ0.hi)) 0) * μ1.lo)),I (w64 ((w64 (0 - μ0.lo)) * μ1.hi))]],2,false⟩)],ν2,ν0⟩

def sd40072 (ν0 ν1:Nat) (μ0:Sn) (μ1:Sn):St:=⟨40,[(25,B false),(4,.lsl ν0 0 1 2 none),(22,.sl true [] 0 none),(23,I 0),(24,I 0)],[(ν0,⟨[.agg [I (w64 ((zb μ0.lo 0) * μ1.lo)),I (w64 (μ0.hi * μ1.hi))]],2,false⟩)],ν1,ν0⟩

def sd40071 (ν0 ν1:Nat) (μ0:Sn) (μ1:Sn):St:=⟨40,[(4,.lsl ν0 0 1 2 none),(22,.sl true [] 0 none),(23,I 0),(24,I 0)],[(ν0,⟨[.agg [I (w64 ((zb μ0.lo 0) * μ1.lo)),I (w64 (μ0.hi * μ1.hi))]],2,false⟩)],ν1,ν0⟩

def sd40073 (ν0 ν1:Nat) (μ0:Sn) (μ1:Sn):St:=⟨54,[(12,B false),(11,I μ0.hi),(10,I (zb μ0.lo 0)),(1,I μ0.hi),(5,.lref ν0 0 2 0),(7,.sl true [] 0 none),(8,I (zb μ0.lo 0))],[(ν0,⟨[.agg [I μ1.lo,I μ1.hi]],2,false⟩)],ν1,ν0⟩

def sd40076 (ν0 ν1 ν2 ν3 ν4 ν5:Nat) (μ0:List Sn) (μ1:Int) (μ2:Sn) (μ3:Sn):St:=⟨40,[(24,I 0),(23,I (((μ0++[(⟨w64 (μ1 * μ2.lo),w64 ((w64 (0 - μ3.lo)) * μ2.hi)⟩:Sn)]).length:Nat):Int)),(22,.lsl ν0 0 ((μ0++[(⟨w64 (μ1 * μ2.lo),w64 ((w64 (0 - μ3.lo)) * μ2.hi)⟩:Sn)]).length) 2 none),(21,.agg [I μ2.lo,I μ2.hi]),(20,I (w64 (0 - μ3.lo))),(19,I μ3.lo),(18,.lref ν1 0 2 0),(17,I (zb (w64 (0 - μ3.hi)) 0)),(16,I (w64 (0 - μ3.hi))),(15,I μ3.hi),(14,.lref ν1 0 2 1),(4,.sl true [] 0 none),(13,.sl true [] 0 none),(12,.agg [I μ2.lo,I μ2.hi]),(11,I μ3.hi),(10,.lref ν1 0 2 1),(9,I (zb μ3.lo 0)),(8,I μ3.lo),(7,.lref ν1 0 2 0),(3,.sl true [] 0 none),(2,.lref ν1 0 2 0),(0,.agg [I μ3.lo,I μ3.hi]),(1,.ptr (.agg [I μ2.lo,I μ2.hi]))],[(ν1,⟨[.agg [I μ3.lo,I μ3.hi]],2,false⟩),(ν2,⟨[.agg [I μ2.lo,I μ2.hi]],2,false⟩),(ν3,⟨[.agg [I μ2.lo,I μ2.hi]],2,false⟩),(ν4,⟨[.agg [I (w64 (μ1 * μ2.lo)),I (w64 ((w64 (0 - μ3.lo)) * μ2.hi))]],2,false⟩),(ν0,⟨(μ0++[(⟨w64 (μ1 * μ2.lo),w64 ((w64 (0 - μ3.lo)) * μ2.hi)⟩:Sn)]).map Sn.D,2,false⟩)],ν5,ν1⟩

def sd40077 (ν0 ν1:Nat) (μ0:List Sn) (μ1:Int) (μ2:Sn) (μ3:Sn):St:=⟨40,[(4,.sl true [] 0 none),(22,.lsl ν0 0 ((μ0++[(⟨w64 (μ1 * μ2.lo),w64 ((w64 (0 - μ3.lo)) * μ2.hi)⟩:Sn)]).length) 2 none),(23,I (((μ0++[(⟨w64 (μ1 * μ2.lo),w64 ((w64 (0 - μ3.lo)) * μ2.hi)⟩:Sn)]).length:Nat):Int)),(24,I 0)],[(ν0,⟨(μ0++[(⟨w64 (μ1 * μ2.lo),w64 ((w64 (0 - μ3.lo)) * μ2.hi)⟩:Sn)]).map Sn.D,2,false⟩)],ν1,ν0⟩

def sd40078 (ν0 ν1:Nat) (μ0:List Sn) (μ1:Int) (μ2:Sn) (μ3:Sn):St:=⟨40,[(25,B false),(4,.sl true [] 0 none),(22,.lsl ν0 0 ((μ0++[(⟨w64 (μ1 * μ2.lo),w64 ((w64 (0 - μ3.lo)) * μ2.hi)⟩:Sn)]).length) 2 none),(23,I (((μ0++[(⟨w64 (μ1 * μ2.lo),w64 ((w64 (0 - μ3.lo)) * μ2.hi)⟩:Sn)]).length:Nat):Int)),(24,I (((μ0++[(⟨w64 (μ1 * μ2.lo),w64 ((w64 (0 - μ3.lo)) * μ2.hi)⟩:Sn)]).length:Nat):Int))],[(ν0,⟨(μ0++[(⟨w64 (μ1 * μ2.lo),w64 ((w64 (0 - μ3.lo)) * μ2.hi)⟩:Sn)]).map Sn.D,2,false⟩)],ν1,ν0⟩

def sd40079 (ν0 ν1 ν2 ν3 ν4 ν5:Nat) (μ0:List Sn) (μ1:Int) (μ2:Sn) (μ3:Sn):St:=⟨40,[(24,I 0),(23,I (((μ0++[(⟨w64 (μ1 * μ2.lo),w64 (μ1 * μ2.hi)⟩:Sn)]).length:Nat):Int)),(22,.lsl ν0 0 ((μ0++[(⟨w64 (μ1 * μ2.lo),w64 (μ1 * μ2.hi)⟩:Sn)]).length) 2 none),(21,.agg [I μ2.lo,I μ2.hi]),(20,I (w64 (0 - μ3.lo))),(19,I μ3.lo),(18,.lref ν1 0 2 0),(17,I (zb (w64 (0 - μ3.hi)) 0)),(16,I (w64 (0 - μ3.hi))),(15,I μ3.hi),(14,.lref ν1 0 2 1),(4,.sl true [] 0 none),(13,.sl true [] 0 none),(12,.agg [I μ2.lo,I μ2.hi]),(11,I μ3.hi),(10,.lref ν1 0 2 1),(9,I (zb μ3.lo 0)),(8,I μ3.lo),(7,.lref ν1 0 2 0),(3,.sl true [] 0 none),(2,.lref ν1 0 2 0),(0,.agg [I μ3.lo,I μ3.hi]),(1,.ptr (.agg [I μ2.lo,I μ2.hi]))],[(ν1,⟨[.agg [I μ3.lo,I μ3.hi]],2,false⟩),(ν2,⟨[.agg [I μ2.lo,I μ2.hi]],2,false⟩),(ν3,⟨[.agg [I μ2.lo,I μ2.hi]],2,false⟩),(ν4,⟨[.agg [I (w64 (μ1 * μ2.lo)),I (w64 (μ1 * μ2.hi))]],2,false⟩),(ν0,⟨(μ0++[(⟨w64 (μ1 * μ2.lo),w64 (μ1 * μ2.hi)⟩:Sn)]).map Sn.D,2,false⟩)],ν5,ν1⟩

def sd40080 (ν0 ν1:Nat) (μ0:List Sn) (μ1:Int) (μ2:Sn):St:=⟨40,[(4,.sl true [] 0 none),(22,.lsl ν0 0 ((μ0++[(⟨w64 (μ1 * μ2.lo),w64 (μ1 * μ2.hi)⟩:Sn)]).length) 2 none),(23,I (((μ0++[(⟨w64 (μ1 * μ2.lo),w64 (μ1 * μ2.hi)⟩:Sn)]).length:Nat):Int)),(24,I 0)],[(ν0,⟨(μ0++[(⟨w64 (μ1 * μ2.lo),w64 (μ1 * μ2.hi)⟩:Sn)]).map Sn.D,2,false⟩)],ν1,ν0⟩

def sd40081 (ν0 ν1:Nat) (μ0:List Sn) (μ1:Int) (μ2:Sn):St:=⟨40,[(25,B false),(4,.sl true [] 0 none),(22,.lsl ν0 0 ((μ0++[(⟨w64 (μ1 * μ2.lo),w64 (μ1 * μ2.hi)⟩:Sn)]).length) 2 none),(23,I (((μ0++[(⟨w64 (μ1 * μ2.lo),w64 (μ1 * μ2.hi)⟩:Sn)]).length:Nat):Int)),(24,I (((μ0++[(⟨w64 (μ1 * μ2.lo),w64 (μ1 * μ2.hi)⟩:Sn)]).length:Nat):Int))],[(ν0,⟨(μ0++[(⟨w64 (μ1 * μ2.lo),w64 (μ1 * μ2.hi)⟩:Sn)]).map Sn.D,2,false⟩)],ν1,ν0⟩

def sd40082 (ν0 ν1 ν2 ν3 ν4:Nat) (μ0:List Sn) (μ1:Sn) (μ2:Sn):St:=⟨40,[(24,I 0),(23,I ((μ0.length:Nat):Int)),(22,.lsl ν0 0 μ0.length 2 none),(21,.agg [I μ1.lo,I μ1.hi]),(20,I (w64 (0 - μ2.lo))),(19,I μ2.lo),(18,.lref ν1 0 2 0),(17,I (zb (w64 (0 - μ2.hi)) 0)),(16,I (w64 (0 - μ2.hi))),(15,I μ2.hi),(14,.lref ν1 0 2 1),(4,.sl true [] 0 none),(13,.sl true [] 0 none),(12,.agg [I μ1.lo,I μ1.hi]),(11,I μ2.hi),(10,.lref ν1 0 2 1),(9,I (zb μ2.lo 0)),(8,I μ2.lo),(7,.lref ν1 0 2 0),(3,.sl true [] 0 none),(2,.lref ν1 0 2 0),(0,.agg [I μ2.lo,I μ2.hi]),(1,.ptr (.agg [I μ1.lo,I μ1.hi]))],[(ν1,⟨[.agg [I μ2.lo,I μ2.hi]],2,false⟩),(ν2,⟨[.agg [I μ1.lo,I μ1.hi]],2,false⟩),(ν3,⟨[.agg [I μ1.lo,I μ1.hi]],2,false⟩),(ν0,⟨μ0.map Sn.D,2,false⟩)],ν4,ν1⟩

def sd40083 (ν0 ν1:Nat) (μ0:List Sn):St:=⟨40,[(4,.sl true [] 0 none),(22,.lsl ν0 0 μ0.length 2 none),(23,I ((μ0.length:Nat):Int)),(24,I 0)],[(ν0,⟨μ0.map Sn.D,2,false⟩)],ν1,ν0⟩

def sd40085 (ν0 ν1 ν2:Nat) (μ0:Sn) (μ1:Sn):St:=⟨40,[(4,.lsl ν0 0 1 2 none),(22,.lsl ν1 0 1 2 none),(23,I 1),(24,I 1)],[(ν0,⟨[.agg [I (w64 (0 - (w64 ((w64 (0 - μ0.lo)) * μ1.hi)))),I (w64 (0 - (w64 ((zb (w64 (0 - μ0.hi)) 0) * μ1.lo))))]],2,false⟩),(ν1,⟨[.agg [I (w64 ((zb (w64 (0 - μ0.hi)) 0) * μ1.lo)),I (w64 ((w64 (0 - μ0.lo)) * μ1.hi))]],2,false⟩)],ν2,ν0⟩

def sd40084 (ν0 ν1:Nat) (μ0:Sn) (μ1:Sn):St:=⟨40,[(4,.sl true [] 0 none),(22,.lsl ν0 0 1 2 none),(23,I 1),(24,I 0)],[(ν0,⟨[.agg [I (w64 ((zb (w64 (0 - μ0.hi)) 0) * μ1.lo)),I (w64 ((w64 (0 - μ0.lo)) * μ1.hi))]],2,false⟩)],ν1,ν0⟩

def sd40086 (ν0 ν1 ν2:Nat) (μ0:Sn) (μ1:Sn):St:=⟨40,[(25,B false),(4,.lsl ν0 0 1 2 none),(22,.lsl ν1 0 1 2 none),(23,I 1),(24,I 1)],[(ν0,⟨[.agg [I (w64 (0 - (w64 ((w64 (0 - μ0.lo)) * μ1.hi)))),I (w64 (0 - (w64 ((zb (w64 (0 - μ0.hi)) 0) * μ1.lo))))]],2,false⟩),(ν1,⟨[.agg [I (w64 ((zb (w64 (0 - μ0.hi)) 0) * μ1.lo)),I (w64 ((w64 (0 - μ0.lo)) * μ1.hi))]],2,false⟩)],ν2,ν0⟩

theorem T_ranges_Times_1 (x:Sn) (k:Sn) (hx:-1099511627776≤x.lo∧x.lo≤x.hi∧x.hi≤1099511627776):(lim cfg).pure 71 [Sn.D x,.ptr (Sn.D k)]=some (GS.D Sn.D 2 (z8 x k)):=by
 unfold z8
 cases h13:yp x k (zb x.lo 0) 2051 with
 |x0 yD yE =>
  try dsimp only
  have w6:=ivt_ranges_products_3 x k (zb x.lo 0) 2051 (ranges_products_3_ne _ _ _)
  rw [h13] at w6
  have xX:=w6
  try dsimp only [iv_ranges_products_3] at xX
  have p1:=(show (lim cfg).inl 72 [I (zb x.lo 0),I x.hi,.agg [I k.lo,I k.hi]] [] 1=some (.lsl 4 0 ((yD++[(⟨w64 (yE * k.lo),w64 (x.hi * k.hi)⟩:Sn)]).length) 2 none,[(1,⟨[.agg [I k.lo,I k.hi]],2,false⟩),(3,⟨[.agg [I (w64 (yE * k.lo)),I (w64 (x.hi * k.hi))]],2,false⟩),(4,⟨(yD++[(⟨w64 (yE * k.lo),w64 (x.hi * k.hi)⟩:Sn)]).map Sn.D,2,false⟩)],5) from zP [.loop .ret (sd40000 4 3 1 2 5 yD yE k x)] (Ai (zB (q:=lr_ranges_products_3 x k (zb x.lo 0)) (lp_ranges_products_3 x k (zb x.lo 0) 2051 (ranges_products_3_ne _ _ _)) h13) trivial) (by kernel_rfl))
  cases h26:zN k (w64 (0 - x.lo)) (zb (w64 (0 - x.hi)) 0) 2051 with
  |x0 yJ yI =>
   try dsimp only
   have xW:=ivt_ranges_products_3p1 k (w64 (0 - x.lo)) (zb (w64 (0 - x.hi)) 0) 2051 (zy _ _ _)
   rw [h26] at xW
   have xR:=xW
   try dsimp only [iv_ranges_products_3p1] at xR
   have p2:=(show (lim cfg).inl 72 [I (zb (w64 (0 - x.hi)) 0),I (w64 (0 - x.lo)),.agg [I k.lo,I k.hi]] [] 5=some (.lsl 8 0 ((yJ++[(⟨w64 (yI * k.lo),w64 ((w64 (0 - x.lo)) * k.hi)⟩:Sn)]).length) 2 none,[(5,⟨[.agg [I k.lo,I k.hi]],2,false⟩),(7,⟨[.agg [I (w64 (yI * k.lo)),I (w64 ((w64 (0 - x.lo)) * k.hi))]],2,false⟩),(8,⟨(yJ++[(⟨w64 (yI * k.lo),w64 ((w64 (0 - x.lo)) * k.hi)⟩:Sn)]).map Sn.D,2,false⟩)],9) from zP [.loop .ret (sd40012 8 7 5 6 9 yJ yI k x)] (Ai (zB (q:=zW k (w64 (0 - x.lo)) (zb (w64 (0 - x.hi)) 0)) (lp_ranges_products_3p1 k (w64 (0 - x.lo)) (zb (w64 (0 - x.hi)) 0) 2051 (zy _ _ _)) h26) trivial) (by kernel_rfl))
   have p3:=(gc_of (C:=cfg) (f:=71) (a:=lp71_3) (ks:=[4,22,23,24]) (st:=(sd40015 8 0 4 1 3 5 7 9 yJ yI k x yD yE)) (st1:=(sd40016 0 1 2 yD yE k x yJ yI)) (by kernel_rfl) (by (simp only [sd40015,sd40016,go_sem,length_set,Nat.reduceAdd,Nat.reduceEqDiff,Nat.reduceLT,Nat.reduceLeDiff,bI2,zc.idsL,zc.renL,zc.snapAll,z6.idsL,z6.renL,z6.snapAll])<;>rfl))
   cases h27:zz (yJ++[(⟨w64 (yI * k.lo),w64 ((w64 (0 - x.lo)) * k.hi)⟩:Sn)]) (yD++[(⟨w64 (yE * k.lo),w64 (x.hi * k.hi)⟩:Sn)]) with
   |x0 xk =>
    try dsimp only
    have wc:=ivt_ranges_Times_1_3 (yJ++[(⟨w64 (yI * k.lo),w64 ((w64 (0 - x.lo)) * k.hi)⟩:Sn)]) (yJ++[(⟨w64 (yI * k.lo),w64 ((w64 (0 - x.lo)) * k.hi)⟩:Sn)]) 0 (yD++[(⟨w64 (yE * k.lo),w64 (x.hi * k.hi)⟩:Sn)]) (List.drop_zero) (Nat.zero_le _) (by simp only [length_append,length_cons,length_nil] at *<;>omega) (by simp only [length_append,length_cons,length_nil] at *<;>omega) (by simp only [length_append,length_cons,length_nil] at *<;>omega)
    rw [h27] at wc
    have w9:=wc
    try dsimp only [iv_ranges_Times_1_3] at w9
    exact po_pureS ((ranges_Times_1_o1 x k yD yE)++((ranges_Times_1_o2 x k yD yE yJ yI xk)++[])) [(0,.sl false (xk.map Sn.D) 2 none,[0])] (Ai (yx (gO:=zn [(0,⟨xk.map Sn.D,2,false⟩),(1,⟨(yJ++[(⟨w64 (yI * k.lo),w64 ((w64 (0 - x.lo)) * k.hi)⟩:Sn)]).map Sn.D,2,false⟩)]) (o:=0) (len:=xk.length) (cap:=none) (fz:=false) z6 xk (by kernel_rfl) (by omega)) (Ai (zB (q:=lr_ranges_Times_1_3 (yJ++[(⟨w64 (yI * k.lo),w64 ((w64 (0 - x.lo)) * k.hi)⟩:Sn)])) (lp_ranges_Times_1_3 (yJ++[(⟨w64 (yI * k.lo),w64 ((w64 (0 - x.lo)) * k.hi)⟩:Sn)]) (yJ++[(⟨w64 (yI * k.lo),w64 ((w64 (0 - x.lo)) * k.hi)⟩:Sn)]) 0 (yD++[(⟨w64 (yE * k.lo),w64 (x.hi * k.hi)⟩:Sn)]) (List.drop_zero) (Nat.zero_le _) (by simp only [length_append,length_cons,length_nil] at *<;>omega) (by simp only [length_append,length_cons,length_nil] at *<;>omega) (by simp only [length_append,length_cons,length_nil] at *<;>omega)) h27) (Ai p3 (Ai p2 (Ai p1 trivial))))) (by kernel_rfl)
  |x1 yJ yI =>
   try dsimp only
   have xW:=ivt_ranges_products_3p1 k (w64 (0 - x.lo)) (zb (w64 (0 - x.hi)) 0) 2051 (zy _ _ _)
   rw [h26] at xW
   have xR:=xW
   try dsimp only [iv_ranges_products_3p1] at xR
   have p4:=(show (lim cfg).inl 72 [I (zb (w64 (0 - x.hi)) 0),I (w64 (0 - x.lo)),.agg [I k.lo,I k.hi]] [] 5=some (.lsl 8 0 ((yJ++[(⟨w64 (yI * k.lo),w64 (yI * k.hi)⟩:Sn)]).length) 2 none,[(5,⟨[.agg [I k.lo,I k.hi]],2,false⟩),(7,⟨[.agg [I (w64 (yI * k.lo)),I (w64 (yI * k.hi))]],2,false⟩),(8,⟨(yJ++[(⟨w64 (yI * k.lo),w64 (yI * k.hi)⟩:Sn)]).map Sn.D,2,false⟩)],9) from zP [.loop (.exit 0) (sd40018 8 7 5 6 9 yJ yI k x)] (Ai (zB (q:=zW k (w64 (0 - x.lo)) (zb (w64 (0 - x.hi)) 0)) (lp_ranges_products_3p1 k (w64 (0 - x.lo)) (zb (w64 (0 - x.hi)) 0) 2051 (zy _ _ _)) h26) trivial) (by kernel_rfl))
   have p5:=(gc_of (C:=cfg) (f:=71) (a:=lp71_3) (ks:=[4,22,23,24]) (st:=(sd40019 8 0 4 1 3 5 7 9 yJ yI k x yD yE)) (st1:=(sd40020 0 1 2 yD yE k x yJ yI)) (by kernel_rfl) (by (simp only [sd40019,sd40020,go_sem,length_set,Nat.reduceAdd,Nat.reduceEqDiff,Nat.reduceLT,Nat.reduceLeDiff,bI2,zc.idsL,zc.renL,zc.snapAll,z6.idsL,z6.renL,z6.snapAll])<;>rfl))
   cases h28:zz (yJ++[(⟨w64 (yI * k.lo),w64 (yI * k.hi)⟩:Sn)]) (yD++[(⟨w64 (yE * k.lo),w64 (x.hi * k.hi)⟩:Sn)]) with
   |x0 xk =>
    try dsimp only
    have w7:=ivt_ranges_Times_1_3 (yJ++[(⟨w64 (yI * k.lo),w64 (yI * k.hi)⟩:Sn)]) (yJ++[(⟨w64 (yI * k.lo),w64 (yI * k.hi)⟩:Sn)]) 0 (yD++[(⟨w64 (yE * k.lo),w64 (x.hi * k.hi)⟩:Sn)]) (List.drop_zero) (Nat.zero_le _) (by simp only [length_append,length_cons,length_nil] at *<;>omega) (by simp only [length_append,length_cons,length_nil] at *<;>omega) (by simp only [length_append,length_cons,length_nil] at *<;>omega)
    rw [h28] at w7
    have xY:=w7
    try dsimp only [iv_ranges_Times_1_3] at xY
    exact po_pureS ((ranges_Times_1_o1 x k yD yE)++((ranges_Times_1_o3 x k yD yE yJ yI xk)++[])) [(0,.sl false (xk.map Sn.D) 2 none,[0])] (Ai (yx (gO:=zn [(0,⟨xk.map Sn.D,2,false⟩),(1,⟨(yJ++[(⟨w64 (yI * k.lo),w64 (yI * k.hi)⟩:Sn)]).map Sn.D,2,false⟩)]) (o:=0) (len:=xk.length) (cap:=none) (fz:=false) z6 xk (by kernel_rfl) (by omega)) (Ai (zB (q:=lr_ranges_Times_1_3 (yJ++[(⟨w64 (yI * k.lo),w64 (yI * k.hi)⟩:Sn)])) (lp_ranges_Times_1_3 (yJ++[(⟨w64 (yI * k.lo),w64 (yI * k.hi)⟩:Sn)]) (yJ++[(⟨w64 (yI * k.lo),w64 (yI * k.hi)⟩:Sn)]) 0 (yD++[(⟨w64 (yE * k.lo),w64 (x.hi * k.hi)⟩:Sn)]) (List.drop_zero) (Nat.zero_le _) (by simp only [length_append,length_cons,length_nil] at *<;>omega) (by simp only [length_append,length_cons,length_nil] at *<;>omega) (by simp only [length_append,length_cons,length_nil] at *<;>omega)) h28) (Ai p5 (Ai p4 (Ai p1 trivial))))) (by kernel_rfl)
  |x2 yJ yI =>
   try dsimp only
   have xW:=ivt_ranges_products_3p1 k (w64 (0 - x.lo)) (zb (w64 (0 - x.hi)) 0) 2051 (zy _ _ _)
   rw [h26] at xW
   have xR:=xW
   try dsimp only [iv_ranges_products_3p1] at xR
   have p6:=(show (lim cfg).inl 72 [I (zb (w64 (0 - x.hi)) 0),I (w64 (0 - x.lo)),.agg [I k.lo,I k.hi]] [] 5=some (.lsl 6 0 yJ.length 2 none,[(5,⟨[.agg [I k.lo,I k.hi]],2,false⟩),(6,⟨yJ.map Sn.D,2,false⟩)],7) from zP [.loop (.exit 0) (sd40022 5 6 7 x yI yJ k)] (Ai (zB (q:=zW k (w64 (0 - x.lo)) (zb (w64 (0 - x.hi)) 0)) (lp_ranges_products_3p1 k (w64 (0 - x.lo)) (zb (w64 (0 - x.hi)) 0) 2051 (zy _ _ _)) h26) trivial) (by kernel_rfl))
   have p7:=(gc_of (C:=cfg) (f:=71) (a:=lp71_3) (ks:=[4,22,23,24]) (st:=(sd40023 6 0 4 1 3 5 7 yJ k x yD yE)) (st1:=(sd40024 0 1 2 yD yE k x yJ)) (by kernel_rfl) (by (simp only [sd40023,sd40024,go_sem,length_set,Nat.reduceAdd,Nat.reduceEqDiff,Nat.reduceLT,Nat.reduceLeDiff,bI2,zc.idsL,zc.renL,zc.snapAll,z6.idsL,z6.renL,z6.snapAll])<;>rfl))
   cases h29:zz yJ (yD++[(⟨w64 (yE * k.lo),w64 (x.hi * k.hi)⟩:Sn)]) with
   |x0 xk =>
    try dsimp only
    have xQ:=ivt_ranges_Times_1_3 yJ yJ 0 (yD++[(⟨w64 (yE * k.lo),w64 (x.hi * k.hi)⟩:Sn)]) (List.drop_zero) (Nat.zero_le _) (by omega) (by simp only [length_append,length_cons,length_nil] at *<;>omega) (by omega)
    rw [h29] at xQ
    have xN:=xQ
    try dsimp only [iv_ranges_Times_1_3] at xN
    exact po_pureS ((ranges_Times_1_o1 x k yD yE)++((ranges_Times_1_o4 x k yD yE yJ xk)++[])) [(0,.sl false (xk.map Sn.D) 2 none,[0])] (Ai (yx (gO:=zn [(0,⟨xk.map Sn.D,2,false⟩),(1,⟨yJ.map Sn.D,2,false⟩)]) (o:=0) (len:=xk.length) (cap:=none) (fz:=false) z6 xk (by kernel_rfl) (by omega)) (Ai (zB (q:=lr_ranges_Times_1_3 yJ) (lp_ranges_Times_1_3 yJ yJ 0 (yD++[(⟨w64 (yE * k.lo),w64 (x.hi * k.hi)⟩:Sn)]) (List.drop_zero) (Nat.zero_le _) (by omega) (by simp only [length_append,length_cons,length_nil] at *<;>omega) (by omega)) h29) (Ai p7 (Ai p6 (Ai p1 trivial))))) (by kernel_rfl)
  |x3 =>
   try dsimp only
   have l1:=(app_row (f:=Sn.D) (te:=zG) (gO:=zn [(0,⟨(yD++[(⟨w64 (yE * k.lo),w64 (x.hi * k.hi)⟩:Sn)]).map Sn.D,2,false⟩),(1,⟨[.agg [I (w64 ((zb (w64 (0 - x.hi)) 0) * k.lo)),I (w64 ((w64 (0 - x.lo)) * k.hi))]],2,false⟩),(2,⟨[.agg [I (w64 ((zb (w64 (0 - x.hi)) 0) * k.lo)),I (w64 ((w64 (0 - x.lo)) * k.hi))]],2,false⟩),(3,⟨[.agg [I (w64 (0 - (w64 ((w64 (0 - x.lo)) * k.hi)))),I (w64 (0 - (w64 ((zb (w64 (0 - x.hi)) 0) * k.lo))))]],2,false⟩)]) (nxt:=4) (o:=0) (o2:=3) (fz:=false) z6 (yD++[(⟨w64 (yE * k.lo),w64 (x.hi * k.hi)⟩:Sn)]) (⟨w64 (0 - (w64 ((w64 (0 - x.lo)) * k.hi))),w64 (0 - (w64 ((zb (w64 (0 - x.hi)) 0) * k.lo)))⟩:Sn) (by kernel_rfl) (by kernel_rfl) rfl (by kernel_rfl) (by decide) ⟨by simp only [zG,big]<;>(simp only [length_append,length_cons,length_nil] at *<;>omega),by simp only [big]<;>(simp only [length_append,length_cons,length_nil] at *<;>omega)⟩)
   have l2:=(show ∀q,(lim cfg).loop 71 lp71_3 (sd40027 0 1 2 yD yE k x)=some q→(lim cfg).loop 71 lp71_3 (sd40026 0 1 2 yD yE k x)=some q from fun q hq=>zw (ks:=[4,22,23,24]) (st':=(sd40028 4 3 2 0 1 5 yD yE k x)) (st1:=(sd40027 0 1 2 yD yE k x)) [.dec true,.op (some 37) ⟨.lsl 4 0 (((yD++[(⟨w64 (yE * k.lo),w64 (x.hi * k.hi)⟩:Sn)])++[(⟨w64 (0 - (w64 ((w64 (0 - x.lo)) * k.hi))),w64 (0 - (w64 ((zb (w64 (0 - x.hi)) 0) * k.lo)))⟩:Sn)]).length) 2 none,[(0,none),(4,some ⟨((yD++[(⟨w64 (yE * k.lo),w64 (x.hi * k.hi)⟩:Sn)])++[(⟨w64 (0 - (w64 ((w64 (0 - x.lo)) * k.hi))),w64 (0 - (w64 ((zb (w64 (0 - x.hi)) 0) * k.lo)))⟩:Sn)]).map Sn.D,2,false⟩)],[0,3],5⟩,.rw 38 (I 1)] (Ai (zadd_rw (x:=1) (by omega)) (Ai (l1) (Ai (Eq.refl true) trivial))) (by kernel_rfl) (by (simp only [sd40027,sd40028,go_sem,length_set,Nat.reduceAdd,Nat.reduceEqDiff,Nat.reduceLT,Nat.reduceLeDiff,bI2,zc.idsL,zc.renL,zc.snapAll,z6.idsL,z6.renL,z6.snapAll])<;>rfl) hq (by kernel_rfl))
   exact po_pureS ((ranges_Times_1_o1 x k yD yE)++[.inl (.lsl 7 0 1 2 none) [(5,⟨[.agg [I k.lo,I k.hi]],2,false⟩),(6,⟨[.agg [I (w64 ((zb (w64 (0 - x.hi)) 0) * k.lo)),I (w64 ((w64 (0 - x.lo)) * k.hi))]],2,false⟩),(7,⟨[.agg [I (w64 ((zb (w64 (0 - x.hi)) 0) * k.lo)),I (w64 ((w64 (0 - x.lo)) * k.hi))]],2,false⟩)] 8,.gloop (sd40026 0 1 2 yD yE k x) (.exit 0) (sd40029 0 1 2 yD yE k x)]) [(0,.sl false (((yD++[(⟨w64 (yE * k.lo),w64 (x.hi * k.hi)⟩:Sn)])++[(⟨w64 (0 - (w64 ((w64 (0 - x.lo)) * k.hi))),w64 (0 - (w64 ((zb (w64 (0 - x.hi)) 0) * k.lo)))⟩:Sn)]).map Sn.D) 2 none,[0])] (Ai (yx (gO:=zn [(0,⟨((yD++[(⟨w64 (yE * k.lo),w64 (x.hi * k.hi)⟩:Sn)])++[(⟨w64 (0 - (w64 ((w64 (0 - x.lo)) * k.hi))),w64 (0 - (w64 ((zb (w64 (0 - x.hi)) 0) * k.lo)))⟩:Sn)]).map Sn.D,2,false⟩),(1,⟨[.agg [I (w64 ((zb (w64 (0 - x.hi)) 0) * k.lo)),I (w64 ((w64 (0 - x.lo)) * k.hi))]],2,false⟩)]) (o:=0) (len:=((yD++[(⟨w64 (yE * k.lo),w64 (x.hi * k.hi)⟩:Sn)])++[(⟨w64 (0 - (w64 ((w64 (0 - x.lo)) * k.hi))),w64 (0 - (w64 ((zb (w64 (0 - x.hi)) 0) * k.lo)))⟩:Sn)]).length) (cap:=none) (fz:=false) z6 ((yD++[(⟨w64 (yE * k.lo),w64 (x.hi * k.hi)⟩:Sn)])++[(⟨w64 (0 - (w64 ((w64 (0 - x.lo)) * k.hi))),w64 (0 - (w64 ((zb (w64 (0 - x.hi)) 0) * k.lo)))⟩:Sn)]) (by kernel_rfl) (by omega)) (Ai (show (lim cfg).loop 71 lp71_3 (sd40026 0 1 2 yD yE k x)=some ((.exit 0),(sd40029 0 1 2 yD yE k x)) from (l2 _ (zr [.dec false] (Ai (Eq.refl false) trivial) (by kernel_rfl)))) (Ai (gc_of (C:=cfg) (f:=71) (a:=lp71_3) (ks:=[4,22,23,24]) (st:=(sd40030 7 0 4 1 3 5 6 8 k x yD yE)) (st1:=(sd40026 0 1 2 yD yE k x)) (by kernel_rfl) (by (simp only [sd40026,sd40030,go_sem,length_set,Nat.reduceAdd,Nat.reduceEqDiff,Nat.reduceLT,Nat.reduceLeDiff,bI2,zc.idsL,zc.renL,zc.snapAll,z6.idsL,z6.renL,z6.snapAll])<;>rfl)) (Ai (show (lim cfg).inl 72 [I (zb (w64 (0 - x.hi)) 0),I (w64 (0 - x.lo)),.agg [I k.lo,I k.hi]] [] 5=some (.lsl 7 0 1 2 none,[(5,⟨[.agg [I k.lo,I k.hi]],2,false⟩),(6,⟨[.agg [I (w64 ((zb (w64 (0 - x.hi)) 0) * k.lo)),I (w64 ((w64 (0 - x.lo)) * k.hi))]],2,false⟩),(7,⟨[.agg [I (w64 ((zb (w64 (0 - x.hi)) 0) * k.lo)),I (w64 ((w64 (0 - x.lo)) * k.hi))]],2,false⟩)],8) from zP [.loop .ret (sd40025 7 6 5 8 x k)] (Ai (zB (q:=zW k (w64 (0 - x.lo)) (zb (w64 (0 - x.hi)) 0)) (lp_ranges_products_3p1 k (w64 (0 - x.lo)) (zb (w64 (0 - x.hi)) 0) 2051 (zy _ _ _)) h26) trivial) (by kernel_rfl)) (Ai p1 trivial))))) (by kernel_rfl)
  |x4 =>
   try dsimp only
   exact po_pureS ((ranges_Times_1_o1 x k yD yE)++[.inl (.sl true [] 0 none) [(5,⟨[.agg [I k.lo,I k.hi]],2,false⟩)] 6,.gloop (sd40032 0 1 yD yE k x) (.exit 0) (sd40033 0 1 yD yE k x)]) [(0,.sl false ((yD++[(⟨w64 (yE * k.lo),w64 (x.hi * k.hi)⟩:Sn)]).map Sn.D) 2 none,[0])] (Ai (yx (gO:=zn [(0,⟨(yD++[(⟨w64 (yE * k.lo),w64 (x.hi * k.hi)⟩:Sn)]).map Sn.D,2,false⟩)]) (o:=0) (len:=(yD++[(⟨w64 (yE * k.lo),w64 (x.hi * k.hi)⟩:Sn)]).length) (cap:=none) (fz:=false) z6 (yD++[(⟨w64 (yE * k.lo),w64 (x.hi * k.hi)⟩:Sn)]) (by kernel_rfl) (by omega)) (Ai (show (lim cfg).loop 71 lp71_3 (sd40032 0 1 yD yE k x)=some ((.exit 0),(sd40033 0 1 yD yE k x)) from (zr [.dec false] (Ai (Eq.refl false) trivial) (by kernel_rfl))) (Ai (gc_of (C:=cfg) (f:=71) (a:=lp71_3) (ks:=[4,22,23,24]) (st:=(sd40034 0 4 1 3 5 6 k x yD yE)) (st1:=(sd40032 0 1 yD yE k x)) (by kernel_rfl) (by (simp only [sd40032,sd40034,go_sem,length_set,Nat.reduceAdd,Nat.reduceEqDiff,Nat.reduceLT,Nat.reduceLeDiff,bI2,zc.idsL,zc.renL,zc.snapAll,z6.idsL,z6.renL,z6.snapAll])<;>rfl)) (Ai (show (lim cfg).inl 72 [I (zb (w64 (0 - x.hi)) 0),I (w64 (0 - x.lo)),.agg [I k.lo,I k.hi]] [] 5=some (.sl true [] 0 none,[(5,⟨[.agg [I k.lo,I k.hi]],2,false⟩)],6) from zP [.loop (.exit 0) (sd40031 5 6 x k)] (Ai (zB (q:=zW k (w64 (0 - x.lo)) (zb (w64 (0 - x.hi)) 0)) (lp_ranges_products_3p1 k (w64 (0 - x.lo)) (zb (w64 (0 - x.hi)) 0) 2051 (zy _ _ _)) h26) trivial) (by kernel_rfl)) (Ai p1 trivial))))) (by kernel_rfl)
  |out =>
   exact absurd h26 ((zy _ _ _))
 |x1 yD yE =>
  try dsimp only
  have w6:=ivt_ranges_products_3 x k (zb x.lo 0) 2051 (ranges_products_3_ne _ _ _)
  rw [h13] at w6
  have xX:=w6
  try dsimp only [iv_ranges_products_3] at xX
  have p8:=(show (lim cfg).inl 72 [I (zb x.lo 0),I x.hi,.agg [I k.lo,I k.hi]] [] 1=some (.lsl 4 0 ((yD++[(⟨w64 (yE * k.lo),w64 (yE * k.hi)⟩:Sn)]).length) 2 none,[(1,⟨[.agg [I k.lo,I k.hi]],2,false⟩),(3,⟨[.agg [I (w64 (yE * k.lo)),I (w64 (yE * k.hi))]],2,false⟩),(4,⟨(yD++[(⟨w64 (yE * k.lo),w64 (yE * k.hi)⟩:Sn)]).map Sn.D,2,false⟩)],5) from zP [.loop (.exit 0) (sd40001 4 3 1 2 5 yD yE k x)] (Ai (zB (q:=lr_ranges_products_3 x k (zb x.lo 0)) (lp_ranges_products_3 x k (zb x.lo 0) 2051 (ranges_products_3_ne _ _ _)) h13) trivial) (by kernel_rfl))
  cases h30:zN k (w64 (0 - x.lo)) (zb (w64 (0 - x.hi)) 0) 2051 with
  |x0 yJ yI =>
   try dsimp only
   have w8:=ivt_ranges_products_3p1 k (w64 (0 - x.lo)) (zb (w64 (0 - x.hi)) 0) 2051 (zy _ _ _)
   rw [h30] at w8
   have xZ:=w8
   try dsimp only [iv_ranges_products_3p1] at xZ
   have p9:=(show (lim cfg).inl 72 [I (zb (w64 (0 - x.hi)) 0),I (w64 (0 - x.lo)),.agg [I k.lo,I k.hi]] [] 5=some (.lsl 8 0 ((yJ++[(⟨w64 (yI * k.lo),w64 ((w64 (0 - x.lo)) * k.hi)⟩:Sn)]).length) 2 none,[(5,⟨[.agg [I k.lo,I k.hi]],2,false⟩),(7,⟨[.agg [I (w64 (yI * k.lo)),I (w64 ((w64 (0 - x.lo)) * k.hi))]],2,false⟩),(8,⟨(yJ++[(⟨w64 (yI * k.lo),w64 ((w64 (0 - x.lo)) * k.hi)⟩:Sn)]).map Sn.D,2,false⟩)],9) from zP [.loop .ret (sd40012 8 7 5 6 9 yJ yI k x)] (Ai (zB (q:=zW k (w64 (0 - x.lo)) (zb (w64 (0 - x.hi)) 0)) (lp_ranges_products_3p1 k (w64 (0 - x.lo)) (zb (w64 (0 - x.hi)) 0) 2051 (zy _ _ _)) h30) trivial) (by kernel_rfl))
   have p10:=(gc_of (C:=cfg) (f:=71) (a:=lp71_3) (ks:=[4,22,23,24]) (st:=(sd40035 8 0 4 1 3 5 7 9 yJ yI k x yD yE)) (st1:=(sd40036 0 1 2 yD yE k yJ yI x)) (by kernel_rfl) (by (simp only [sd40035,sd40036,go_sem,length_set,Nat.reduceAdd,Nat.reduceEqDiff,Nat.reduceLT,Nat.reduceLeDiff,bI2,zc.idsL,zc.renL,zc.snapAll,z6.idsL,z6.renL,z6.snapAll])<;>rfl))
   cases h31:zz (yJ++[(⟨w64 (yI * k.lo),w64 ((w64 (0 - x.lo)) * k.hi)⟩:Sn)]) (yD++[(⟨w64 (yE * k.lo),w64 (yE * k.hi)⟩:Sn)]) with
   |x0 xk =>
    try dsimp only
    have hv_h31:=ivt_ranges_Times_1_3 (yJ++[(⟨w64 (yI * k.lo),w64 ((w64 (0 - x.lo)) * k.hi)⟩:Sn)]) (yJ++[(⟨w64 (yI * k.lo),w64 ((w64 (0 - x.lo)) * k.hi)⟩:Sn)]) 0 (yD++[(⟨w64 (yE * k.lo),w64 (yE * k.hi)⟩:Sn)]) (List.drop_zero) (Nat.zero_le _) (by simp only [length_append,length_cons,length_nil] at *<;>omega) (by simp only [length_append,length_cons,length_nil] at *<;>omega) (by simp only [length_append,length_cons,length_nil] at *<;>omega)
    rw [h31] at hv_h31
    have wg:=hv_h31
    try dsimp only [iv_ranges_Times_1_3] at wg
    exact po_pureS ((ranges_Times_1_o5 k yD yE)++((ranges_Times_1_o6 x k yD yE yJ yI xk)++[])) [(0,.sl false (xk.map Sn.D) 2 none,[0])] (Ai (yx (gO:=zn [(0,⟨xk.map Sn.D,2,false⟩),(1,⟨(yJ++[(⟨w64 (yI * k.lo),w64 ((w64 (0 - x.lo)) * k.hi)⟩:Sn)]).map Sn.D,2,false⟩)]) (o:=0) (len:=xk.length) (cap:=none) (fz:=false) z6 xk (by kernel_rfl) (by omega)) (Ai (zB (q:=lr_ranges_Times_1_3 (yJ++[(⟨w64 (yI * k.lo),w64 ((w64 (0 - x.lo)) * k.hi)⟩:Sn)])) (lp_ranges_Times_1_3 (yJ++[(⟨w64 (yI * k.lo),w64 ((w64 (0 - x.lo)) * k.hi)⟩:Sn)]) (yJ++[(⟨w64 (yI * k.lo),w64 ((w64 (0 - x.lo)) * k.hi)⟩:Sn)]) 0 (yD++[(⟨w64 (yE * k.lo),w64 (yE * k.hi)⟩:Sn)]) (List.drop_zero) (Nat.zero_le _) (by simp only [length_append,length_cons,length_nil] at *<;>omega) (by simp only [length_append,length_cons,length_nil] at *<;>omega) (by simp only [length_append,length_cons,length_nil] at *<;>omega)) h31) (Ai p10 (Ai p9 (Ai p8 trivial))))) (by kernel_rfl)
  |x1 yJ yI =>
   try dsimp only
   have w8:=ivt_ranges_products_3p1 k (w64 (0 - x.lo)) (zb (w64 (0 - x.hi)) 0) 2051 (zy _ _ _)
   rw [h30] at w8
   have xZ:=w8
   try dsimp only [iv_ranges_products_3p1] at xZ
   have p11:=(show (lim cfg).inl 72 [I (zb (w64 (0 - x.hi)) 0),I (w64 (0 - x.lo)),.agg [I k.lo,I k.hi]] [] 5=some (.lsl 8 0 ((yJ++[(⟨w64 (yI * k.lo),w64 (yI * k.hi)⟩:Sn)]).length) 2 none,[(5,⟨[.agg [I k.lo,I k.hi]],2,false⟩),(7,⟨[.agg [I (w64 (yI * k.lo)),I (w64 (yI * k.hi))]],2,false⟩),(8,⟨(yJ++[(⟨w64 (yI * k.lo),w64 (yI * k.hi)⟩:Sn)]).map Sn.D,2,false⟩)],9) from zP [.loop (.exit 0) (sd40018 8 7 5 6 9 yJ yI k x)] (Ai (zB (q:=zW k (w64 (0 - x.lo)) (zb (w64 (0 - x.hi)) 0)) (lp_ranges_products_3p1 k (w64 (0 - x.lo)) (zb (w64 (0 - x.hi)) 0) 2051 (zy _ _ _)) h30) trivial) (by kernel_rfl))
   have p12:=(gc_of (C:=cfg) (f:=71) (a:=lp71_3) (ks:=[4,22,23,24]) (st:=(sd40037 8 0 4 1 3 5 7 9 yJ yI k x yD yE)) (st1:=(sd40038 0 1 2 yD yE k yJ yI)) (by kernel_rfl) (by (simp only [sd40037,sd40038,go_sem,length_set,Nat.reduceAdd,Nat.reduceEqDiff,Nat.reduceLT,Nat.reduceLeDiff,bI2,zc.idsL,zc.renL,zc.snapAll,z6.idsL,z6.renL,z6.snapAll])<;>rfl))
   cases h32:zz (yJ++[(⟨w64 (yI * k.lo),w64 (yI * k.hi)⟩:Sn)]) (yD++[(⟨w64 (yE * k.lo),w64 (yE * k.hi)⟩:Sn)]) with
   |x0 xk =>
    try dsimp only
    have hv_h32:=ivt_ranges_Times_1_3 (yJ++[(⟨w64 (yI * k.lo),w64 (yI * k.hi)⟩:Sn)]) (yJ++[(⟨w64 (yI * k.lo),w64 (yI * k.hi)⟩:Sn)]) 0 (yD++[(⟨w64 (yE * k.lo),w64 (yE * k.hi)⟩:Sn)]) (List.drop_zero) (Nat.zero_le _) (by simp only [length_append,length_cons,length_nil] at *<;>omega) (by simp only [length_append,length_cons,length_nil] at *<;>omega) (by simp only [length_append,length_cons,length_nil] at *<;>omega)
    rw [h32] at hv_h32
    have hv_h32_0:=hv_h32
    try dsimp only [iv_ranges_Times_1_3] at hv_h32_0
    exact po_pureS ((ranges_Times_1_o5 k yD yE)++((ranges_Times_1_o7 k yD yE yJ yI xk)++[])) [(0,.sl false (xk.map Sn.D) 2 none,[0])] (Ai (yx (gO:=zn [(0,⟨xk.map Sn.D,2,false⟩),(1,⟨(yJ++[(⟨w64 (yI * k.lo),w64 (yI * k.hi)⟩:Sn)]).map Sn.D,2,false⟩)]) (o:=0) (len:=xk.length) (cap:=none) (fz:=false) z6 xk (by kernel_rfl) (by omega)) (Ai (zB (q:=lr_ranges_Times_1_3 (yJ++[(⟨w64 (yI * k.lo),w64 (yI * k.hi)⟩:Sn)])) (lp_ranges_Times_1_3 (yJ++[(⟨w64 (yI * k.lo),w64 (yI * k.hi)⟩:Sn)]) (yJ++[(⟨w64 (yI * k.lo),w64 (yI * k.hi)⟩:Sn)]) 0 (yD++[(⟨w64 (yE * k.lo),w64 (yE * k.hi)⟩:Sn)]) (List.drop_zero) (Nat.zero_le _) (by simp only [length_append,length_cons,length_nil] at *<;>omega) (by simp only [length_append,length_cons,length_nil] at *<;>omega) (by simp only [length_append,length_cons,length_nil] at *<;>omega)) h32) (Ai p12 (Ai p11 (Ai p8 trivial))))) (by kernel_rfl)
  |x2 yJ yI =>
   try dsimp only
   have w8:=ivt_ranges_products_3p1 k (w64 (0 - x.lo)) (zb (w64 (0 - x.hi)) 0) 2051 (zy _ _ _)
   rw [h30] at w8
   have xZ:=w8
   try dsimp only [iv_ranges_products_3p1] at xZ
   have p13:=(show (lim cfg).inl 72 [I (zb (w64 (0 - x.hi)) 0),I (w64 (0 - x.lo)),.agg [I k.lo,I k.hi]] [] 5=some (.lsl 6 0 yJ.length 2 none,[(5,⟨[.agg [I k.lo,I k.hi]],2,false⟩),(6,⟨yJ.map Sn.D,2,false⟩)],7) from zP [.loop (.exit 0) (sd40022 5 6 7 x yI yJ k)] (Ai (zB (q:=zW k (w64 (0 - x.lo)) (zb (w64 (0 - x.hi)) 0)) (lp_ranges_products_3p1 k (w64 (0 - x.lo)) (zb (w64 (0 - x.hi)) 0) 2051 (zy _ _ _)) h30) trivial) (by kernel_rfl))
   have p14:=(gc_of (C:=cfg) (f:=71) (a:=lp71_3) (ks:=[4,22,23,24]) (st:=(sd40039 6 0 4 1 3 5 7 yJ k x yD yE)) (st1:=(sd40040 0 1 2 yD yE k yJ)) (by kernel_rfl) (by (simp only [sd40039,sd40040,go_sem,length_set,Nat.reduceAdd,Nat.reduceEqDiff,Nat.reduceLT,Nat.reduceLeDiff,bI2,zc.idsL,zc.renL,zc.snapAll,z6.idsL,z6.renL,z6.snapAll])<;>rfl))
   cases h33:zz yJ (yD++[(⟨w64 (yE * k.lo),w64 (yE * k.hi)⟩:Sn)]) with
   |x0 xk =>
    try dsimp only
    have hv_h33:=ivt_ranges_Times_1_3 yJ yJ 0 (yD++[(⟨w64 (yE * k.lo),w64 (yE * k.hi)⟩:Sn)]) (List.drop_zero) (Nat.zero_le _) (by omega) (by simp only [length_append,length_cons,length_nil] at *<;>omega) (by omega)
    rw [h33] at hv_h33
    have hv_h33_0:=hv_h33
    try dsimp only [iv_ranges_Times_1_3] at hv_h33_0
    exact po_pureS ((ranges_Times_1_o5 k yD yE)++((ranges_Times_1_o8 k yD yE yJ xk)++[])) [(0,.sl false (xk.map Sn.D) 2 none,[0])] (Ai (yx (gO:=zn [(0,⟨xk.map Sn.D,2,false⟩),(1,⟨yJ.map Sn.D,2,false⟩)]) (o:=0) (len:=xk.length) (cap:=none) (fz:=false) z6 xk (by kernel_rfl) (by omega)) (Ai (zB (q:=lr_ranges_Times_1_3 yJ) (lp_ranges_Times_1_3 yJ yJ 0 (yD++[(⟨w64 (yE * k.lo),w64 (yE * k.hi)⟩:Sn)]) (List.drop_zero) (Nat.zero_le _) (by omega) (by simp only [length_append,length_cons,length_nil] at *<;>omega) (by omega)) h33) (Ai p14 (Ai p13 (Ai p8 trivial))))) (by kernel_rfl)
  |x3 =>
   try dsimp only
   have l3:=(app_row (f:=Sn.D) (te:=zG) (gO:=zn [(0,⟨(yD++[(⟨w64 (yE * k.lo),w64 (yE * k.hi)⟩:Sn)]).map Sn.D,2,false⟩),(1,⟨[.agg [I (w64 ((zb (w64 (0 - x.hi)) 0) * k.lo)),I (w64 ((w64 (0 - x.lo)) * k.hi))]],2,false⟩),(2,⟨[.agg [I (w64 ((zb (w64 (0 - x.hi)) 0) * k.lo)),I (w64 ((w64 (0 - x.lo)) * k.hi))]],2,false⟩),(3,⟨[.agg [I (w64 (0 - (w64 ((w64 (0 - x.lo)) * k.hi)))),I (w64 (0 - (w64 ((zb (w64 (0 - x.hi)) 0) * k.lo))))]],2,false⟩)]) (nxt:=4) (o:=0) (o2:=3) (fz:=false) z6 (yD++[(⟨w64 (yE * k.lo),w64 (yE * k.hi)⟩:Sn)]) (⟨w64 (0 - (w64 ((w64 (0 - x.lo)) * k.hi))),w64 (0 - (w64 ((zb (w64 (0 - x.hi)) 0) * k.lo)))⟩:Sn) (by kernel_rfl) (by kernel_rfl) rfl (by kernel_rfl) (by decide) ⟨by simp only [zG,big]<;>(simp only [length_append,length_cons,length_nil] at *<;>omega),by simp only [big]<;>(simp only [length_append,length_cons,length_nil] at *<;>omega)⟩)
   have l4:=(show ∀q,(lim cfg).loop 71 lp71_3 (sd40042 0 1 2 yD yE k x)=some q→(lim cfg).loop 71 lp71_3 (sd40041 0 1 2 yD yE k x)=some q from fun q hq=>zw (ks:=[4,22,23,24]) (st':=(sd40043 4 3 2 0 1 5 yD yE k x)) (st1:=(sd40042 0 1 2 yD yE k x)) [.dec true,.op (some 37) ⟨.lsl 4 0 (((yD++[(⟨w64 (yE * k.lo),w64 (yE * k.hi)⟩:Sn)])++[(⟨w64 (0 - (w64 ((w64 (0 - x.lo)) * k.hi))),w64 (0 - (w64 ((zb (w64 (0 - x.hi)) 0) * k.lo)))⟩:Sn)]).length) 2 none,[(0,none),(4,some ⟨((yD++[(⟨w64 (yE * k.lo),w64 (yE * k.hi)⟩:Sn)])++[(⟨w64 (0 - (w64 ((w64 (0 - x.lo)) * k.hi))),w64 (0 - (w64 ((zb (w64 (0 - x.hi)) 0) * k.lo)))⟩:Sn)]).map Sn.D,2,false⟩)],[0,3],5⟩,.rw 38 (I 1)] (Ai (zadd_rw (x:=1) (by omega)) (Ai (l3) (Ai (Eq.refl true) trivial))) (by kernel_rfl) (by (simp only [sd40042,sd40043,go_sem,length_set,Nat.reduceAdd,Nat.reduceEqDiff,Nat.reduceLT,Nat.reduceLeDiff,bI2,zc.idsL,zc.renL,zc.snapAll,z6.idsL,z6.renL,z6.snapAll])<;>rfl) hq (by kernel_rfl))
   exact po_pureS ((ranges_Times_1_o5 k yD yE)++[.inl (.lsl 7 0 1 2 none) [(5,⟨[.agg [I k.lo,I k.hi]],2,false⟩),(6,⟨[.agg [I (w64 ((zb (w64 (0 - x.hi)) 0) * k.lo)),I (w64 ((w64 (0 - x.lo)) * k.hi))]],2,false⟩),(7,⟨[.agg [I (w64 ((zb (w64 (0 - x.hi)) 0) * k.lo)),I (w64 ((w64 (0 - x.lo)) * k.hi))]],2,false⟩)] 8,.gloop (sd40041 0 1 2 yD yE k x) (.exit 0) (sd40044 0 1 2 yD yE k x)]) [(0,.sl false (((yD++[(⟨w64 (yE * k.lo),w64 (yE * k.hi)⟩:Sn)])++[(⟨w64 (0 - (w64 ((w64 (0 - x.lo)) * k.hi))),w64 (0 - (w64 ((zb (w64 (0 - x.hi)) 0) * k.lo)))⟩:Sn)]).map Sn.D) 2 none,[0])] (Ai (yx (gO:=zn [(0,⟨((yD++[(⟨w64 (yE * k.lo),w64 (yE * k.hi)⟩:Sn)])++[(⟨w64 (0 - (w64 ((w64 (0 - x.lo)) * k.hi))),w64 (0 - (w64 ((zb (w64 (0 - x.hi)) 0) * k.lo)))⟩:Sn)]).map Sn.D,2,false⟩),(1,⟨[.agg [I (w64 ((zb (w64 (0 - x.hi)) 0) * k.lo)),I (w64 ((w64 (0 - x.lo)) * k.hi))]],2,false⟩)]) (o:=0) (len:=((yD++[(⟨w64 (yE * k.lo),w64 (yE * k.hi)⟩:Sn)])++[(⟨w64 (0 - (w64 ((w64 (0 - x.lo)) * k.hi))),w64 (0 - (w64 ((zb (w64 (0 - x.hi)) 0) * k.lo)))⟩:Sn)]).length) (cap:=none) (fz:=false) z6 ((yD++[(⟨w64 (yE * k.lo),w64 (yE * k.hi)⟩:Sn)])++[(⟨w64 (0 - (w64 ((w64 (0 - x.lo)) * k.hi))),w64 (0 - (w64 ((zb (w64 (0 - x.hi)) 0) * k.lo)))⟩:Sn)]) (by kernel_rfl) (by omega)) (Ai (show (lim cfg).loop 71 lp71_3 (sd40041 0 1 2 yD yE k x)=some ((.exit 0),(sd40044 0 1 2 yD yE k x)) from (l4 _ (zr [.dec false] (Ai (Eq.refl false) trivial) (by kernel_rfl)))) (Ai (gc_of (C:=cfg) (f:=71) (a:=lp71_3) (ks:=[4,22,23,24]) (st:=(sd40045 7 0 4 1 3 5 6 8 k x yD yE)) (st1:=(sd40041 0 1 2 yD yE k x)) (by kernel_rfl) (by (simp only [sd40041,sd40045,go_sem,length_set,Nat.reduceAdd,Nat.reduceEqDiff,Nat.reduceLT,Nat.reduceLeDiff,bI2,zc.idsL,zc.renL,zc.snapAll,z6.idsL,z6.renL,z6.snapAll])<;>rfl)) (Ai (show (lim cfg).inl 72 [I (zb (w64 (0 - x.hi)) 0),I (w64 (0 - x.lo)),.agg [I k.lo,I k.hi]] [] 5=some (.lsl 7 0 1 2 none,[(5,⟨[.agg [I k.lo,I k.hi]],2,false⟩),(6,⟨[.agg [I (w64 ((zb (w64 (0 - x.hi)) 0) * k.lo)),I (w64 ((w64 (0 - x.lo)) * k.hi))]],2,false⟩),(7,⟨[.agg [I (w64 ((zb (w64 (0 - x.hi)) 0) * k.lo)),I (w64 ((w64 (0 - x.lo)) * k.hi))]],2,false⟩)],8) from zP [.loop .ret (sd40025 7 6 5 8 x k)] (Ai (zB (q:=zW k (w64 (0 - x.lo)) (zb (w64 (0 - x.hi)) 0)) (lp_ranges_products_3p1 k (w64 (0 - x.lo)) (zb (w64 (0 - x.hi)) 0) 2051 (zy _ _ _)) h30) trivial) (by kernel_rfl)) (Ai p8 trivial))))) (by kernel_rfl)
  |x4 =>
   try dsimp only
   exact po_pureS ((ranges_Times_1_o5 k yD yE)++[.inl (.sl true [] 0 none) [(5,⟨[.agg [I k.lo,I k.hi]],2,false⟩)] 6,.gloop (sd40046 0 1 yD yE k) (.exit 0) (sd40047 0 1 yD yE k)]) [(0,.sl false ((yD++[(⟨w64 (yE * k.lo),w64 (yE * k.hi)⟩:Sn)]).map Sn.D) 2 none,[0])] (Ai (yx (gO:=zn [(0,⟨(yD++[(⟨w64 (yE * k.lo),w64 (yE * k.hi)⟩:Sn)]).map Sn.D,2,false⟩)]) (o:=0) (len:=(yD++[(⟨w64 (yE * k.lo),w64 (yE * k.hi)⟩:Sn)]).length) (cap:=none) (fz:=false) z6 (yD++[(⟨w64 (yE * k.lo),w64 (yE * k.hi)⟩:Sn)]) (by kernel_rfl) (by omega)) (Ai (show (lim cfg).loop 71 lp71_3 (sd40046 0 1 yD yE k)=some ((.exit 0),(sd40047 0 1 yD yE k)) from (zr [.dec false] (Ai (Eq.refl false) trivial) (by kernel_rfl))) (Ai (gc_of (C:=cfg) (f:=71) (a:=lp71_3) (ks:=[4,22,23,24]) (st:=(sd40048 0 4 1 3 5 6 k x yD yE)) (st1:=(sd40046 0 1 yD yE k)) (by kernel_rfl) (by (simp only [sd40046,sd40048,go_sem,length_set,Nat.reduceAdd,Nat.reduceEqDiff,Nat.reduceLT,Nat.reduceLeDiff,bI2,zc.idsL,zc.renL,zc.snapAll,z6.idsL,z6.renL,z6.snapAll])<;>rfl)) (Ai (show (lim cfg).inl 72 [I (zb (w64 (0 - x.hi)) 0),I (w64 (0 - x.lo)),.agg [I k.lo,I k.hi]] [] 5=some (.sl true [] 0 none,[(5,⟨[.agg [I k.lo,I k.hi]],2,false⟩)],6) from zP [.loop (.exit 0) (sd40031 5 6 x k)] (Ai (zB (q:=zW k (w64 (0 - x.lo)) (zb (w64 (0 - x.hi)) 0)) (lp_ranges_products_3p1 k (w64 (0 - x.lo)) (zb (w64 (0 - x.hi)) 0) 2051 (zy _ _ _)) h30) trivial) (by kernel_rfl)) (Ai p8 trivial))))) (by kernel_rfl)
  |out =>
   exact absurd h30 ((zy _ _ _))
 |x2 yD yE =>
  try dsimp only
  have w6:=ivt_ranges_products_3 x k (zb x.lo 0) 2051 (ranges_products_3_ne _ _ _)
  rw [h13] at w6
  have xX:=w6
  try dsimp only [iv_ranges_products_3] at xX
  have p15:=(show (lim cfg).inl 72 [I (zb x.lo 0),I x.hi,.agg [I k.lo,I k.hi]] [] 1=some (.lsl 2 0 yD.length 2 none,[(1,⟨[.agg [I k.lo,I k.hi]],2,false⟩),(2,⟨yD.map Sn.D,2,false⟩)],3) from zP [.loop (.exit 0) (sd40002 1 2 3 x yE yD k)] (Ai (zB (q:=lr_ranges_products_3 x k (zb x.lo 0)) (lp_ranges_products_3 x k (zb x.lo 0) 2051 (ranges_products_3_ne _ _ _)) h13) trivial) (by kernel_rfl))
  cases h46:y5 k (w64 (0 - x.lo)) (zb (w64 (0 - x.hi)) 0) 2051 with
  |x0 yz yO =>
   try dsimp only
   have hv_h46:=ivt_ranges_products_3p2 k (w64 (0 - x.lo)) (zb (w64 (0 - x.hi)) 0) 2051 (yh _ _ _)
   rw [h46] at hv_h46
   have hv_h46_0:=hv_h46
   try dsimp only [iv_ranges_products_3p2] at hv_h46_0
   have p16:=(show (lim cfg).inl 72 [I (zb (w64 (0 - x.hi)) 0),I (w64 (0 - x.lo)),.agg [I k.lo,I k.hi]] [] 3=some (.lsl 6 0 ((yz++[(⟨w64 (yO * k.lo),w64 ((w64 (0 - x.lo)) * k.hi)⟩:Sn)]).length) 2 none,[(3,⟨[.agg [I k.lo,I k.hi]],2,false⟩),(5,⟨[.agg [I (w64 (yO * k.lo)),I (w64 ((w64 (0 - x.lo)) * k.hi))]],2,false⟩),(6,⟨(yz++[(⟨w64 (yO * k.lo),w64 ((w64 (0 - x.lo)) * k.hi)⟩:Sn)]).map Sn.D,2,false⟩)],7) from zP [.loop .ret (sd40012 6 5 3 4 7 yz yO k x)] (Ai (zB (q:=lr_ranges_products_3p2 k (w64 (0 - x.lo)) (zb (w64 (0 - x.hi)) 0)) (lp_ranges_products_3p2 k (w64 (0 - x.lo)) (zb (w64 (0 - x.hi)) 0) 2051 (yh _ _ _)) h46) trivial) (by kernel_rfl))
   have p17:=(gc_of (C:=cfg) (f:=71) (a:=lp71_3) (ks:=[4,22,23,24]) (st:=(sd40049 6 0 2 1 3 5 7 yz yO k x yD)) (st1:=(sd40050 0 1 2 yD yz yO k x)) (by kernel_rfl) (by (simp only [sd40049,sd40050,go_sem,length_set,Nat.reduceAdd,Nat.reduceEqDiff,Nat.reduceLT,Nat.reduceLeDiff,bI2,zc.idsL,zc.renL,zc.snapAll,z6.idsL,z6.renL,z6.snapAll])<;>rfl))
   cases h47:zz (yz++[(⟨w64 (yO * k.lo),w64 ((w64 (0 - x.lo)) * k.hi)⟩:Sn)]) yD with
   |x0 xk =>
    try dsimp only
    have hv_h47:=ivt_ranges_Times_1_3 (yz++[(⟨w64 (yO * k.lo),w64 ((w64 (0 - x.lo)) * k.hi)⟩:Sn)]) (yz++[(⟨w64 (yO * k.lo),w64 ((w64 (0 - x.lo)) * k.hi)⟩:Sn)]) 0 yD (List.drop_zero) (Nat.zero_le _) (by simp only [length_append,length_cons,length_nil] at *<;>omega) (by omega) (by simp only [length_append,length_cons,length_nil] at *<;>omega)
    rw [h47] at hv_h47
    have hv_h47_0:=hv_h47
    try dsimp only [iv_ranges_Times_1_3] at hv_h47_0
    exact po_pureS ((ranges_Times_1_o9 x k yD xk yz yO)++[]) [(0,.sl false (xk.map Sn.D) 2 none,[0])] (Ai (yx (gO:=zn [(0,⟨xk.map Sn.D,2,false⟩),(1,⟨(yz++[(⟨w64 (yO * k.lo),w64 ((w64 (0 - x.lo)) * k.hi)⟩:Sn)]).map Sn.D,2,false⟩)]) (o:=0) (len:=xk.length) (cap:=none) (fz:=false) z6 xk (by kernel_rfl) (by omega)) (Ai (zB (q:=lr_ranges_Times_1_3 (yz++[(⟨w64 (yO * k.lo),w64 ((w64 (0 - x.lo)) * k.hi)⟩:Sn)])) (lp_ranges_Times_1_3 (yz++[(⟨w64 (yO * k.lo),w64 ((w64 (0 - x.lo)) * k.hi)⟩:Sn)]) (yz++[(⟨w64 (yO * k.lo),w64 ((w64 (0 - x.lo)) * k.hi)⟩:Sn)]) 0 yD (List.drop_zero) (Nat.zero_le _) (by simp only [length_append,length_cons,length_nil] at *<;>omega) (by omega) (by simp only [length_append,length_cons,length_nil] at *<;>omega)) h47) (Ai p17 (Ai p16 (Ai p15 trivial))))) (by kernel_rfl)
  |x1 yz yO =>
   try dsimp only
   have hv_h46:=ivt_ranges_products_3p2 k (w64 (0 - x.lo)) (zb (w64 (0 - x.hi)) 0) 2051 (yh _ _ _)
   rw [h46] at hv_h46
   have hv_h46_0:=hv_h46
   try dsimp only [iv_ranges_products_3p2] at hv_h46_0
   have p18:=(show (lim cfg).inl 72 [I (zb (w64 (0 - x.hi)) 0),I (w64 (0 - x.lo)),.agg [I k.lo,I k.hi]] [] 3=some (.lsl 6 0 ((yz++[(⟨w64 (yO * k.lo),w64 (yO * k.hi)⟩:Sn)]).length) 2 none,[(3,⟨[.agg [I k.lo,I k.hi]],2,false⟩),(5,⟨[.agg [I (w64 (yO * k.lo)),I (w64 (yO * k.hi))]],2,false⟩),(6,⟨(yz++[(⟨w64 (yO * k.lo),w64 (yO * k.hi)⟩:Sn)]).map Sn.D,2,false⟩)],7) from zP [.loop (.exit 0) (sd40018 6 5 3 4 7 yz yO k x)] (Ai (zB (q:=lr_ranges_products_3p2 k (w64 (0 - x.lo)) (zb (w64 (0 - x.hi)) 0)) (lp_ranges_products_3p2 k (w64 (0 - x.lo)) (zb (w64 (0 - x.hi)) 0) 2051 (yh _ _ _)) h46) trivial) (by kernel_rfl))
   have p19:=(gc_of (C:=cfg) (f:=71) (a:=lp71_3) (ks:=[4,22,23,24]) (st:=(sd40051 6 0 2 1 3 5 7 yz yO k x yD)) (st1:=(sd40052 0 1 2 yD yz yO k)) (by kernel_rfl) (by (simp only [sd40051,sd40052,go_sem,length_set,Nat.reduceAdd,Nat.reduceEqDiff,Nat.reduceLT,Nat.reduceLeDiff,bI2,zc.idsL,zc.renL,zc.snapAll,z6.idsL,z6.renL,z6.snapAll])<;>rfl))
   cases h48:zz (yz++[(⟨w64 (yO * k.lo),w64 (yO * k.hi)⟩:Sn)]) yD with
   |x0 xk =>
    try dsimp only
    have hv_h48:=ivt_ranges_Times_1_3 (yz++[(⟨w64 (yO * k.lo),w64 (yO * k.hi)⟩:Sn)]) (yz++[(⟨w64 (yO * k.lo),w64 (yO * k.hi)⟩:Sn)]) 0 yD (List.drop_zero) (Nat.zero_le _) (by simp only [length_append,length_cons,length_nil] at *<;>omega) (by omega) (by simp only [length_append,length_cons,length_nil] at *<;>omega)
    rw [h48] at hv_h48
    have hv_h48_0:=hv_h48
    try dsimp only [iv_ranges_Times_1_3] at hv_h48_0
    exact po_pureS ((ranges_Times_1_o10 k yD xk yz yO)++[]) [(0,.sl false (xk.map Sn.D) 2 none,[0])] (Ai (yx (gO:=zn [(0,⟨xk.map Sn.D,2,false⟩),(1,⟨(yz++[(⟨w64 (yO * k.lo),w64 (yO * k.hi)⟩:Sn)]).map Sn.D,2,false⟩)]) (o:=0) (len:=xk.length) (cap:=none) (fz:=false) z6 xk (by kernel_rfl) (by omega)) (Ai (zB (q:=lr_ranges_Times_1_3 (yz++[(⟨w64 (yO * k.lo),w64 (yO * k.hi)⟩:Sn)])) (lp_ranges_Times_1_3 (yz++[(⟨w64 (yO * k.lo),w64 (yO * k.hi)⟩:Sn)]) (yz++[(⟨w64 (yO * k.lo),w64 (yO * k.hi)⟩:Sn)]) 0 yD (List.drop_zero) (Nat.zero_le _) (by simp only [length_append,length_cons,length_nil] at *<;>omega) (by omega) (by simp only [length_append,length_cons,length_nil] at *<;>omega)) h48) (Ai p19 (Ai p18 (Ai p15 trivial))))) (by kernel_rfl)
  |x2 yz yO =>
   try dsimp only
   have hv_h46:=ivt_ranges_products_3p2 k (w64 (0 - x.lo)) (zb (w64 (0 - x.hi)) 0) 2051 (yh _ _ _)
   rw [h46] at hv_h46
   have hv_h46_0:=hv_h46
   try dsimp only [iv_ranges_products_3p2] at hv_h46_0
   have p20:=(show (lim cfg).inl 72 [I (zb (w64 (0 - x.hi)) 0),I (w64 (0 - x.lo)),.agg [I k.lo,I k.hi]] [] 3=some (.lsl 4 0 yz.length 2 none,[(3,⟨[.agg [I k.lo,I k.hi]],2,false⟩),(4,⟨yz.map Sn.D,2,false⟩)],5) from zP [.loop (.exit 0) (sd40022 3 4 5 x yO yz k)] (Ai (zB (q:=lr_ranges_products_3p2 k (w64 (0 - x.lo)) (zb (w64 (0 - x.hi)) 0)) (lp_ranges_products_3p2 k (w64 (0 - x.lo)) (zb (w64 (0 - x.hi)) 0) 2051 (yh _ _ _)) h46) trivial) (by kernel_rfl))
   have p21:=(gc_of (C:=cfg) (f:=71) (a:=lp71_3) (ks:=[4,22,23,24]) (st:=(sd40053 4 0 2 1 3 5 yz k x yD)) (st1:=(sd40054 0 1 2 yD yz)) (by kernel_rfl) (by (simp only [sd40053,sd40054,go_sem,length_set,Nat.reduceAdd,Nat.reduceEqDiff,Nat.reduceLT,Nat.reduceLeDiff,bI2,zc.idsL,zc.renL,zc.snapAll,z6.idsL,z6.renL,z6.snapAll])<;>rfl))
   cases h49:zz yz yD with
   |x0 xk =>
    try dsimp only
    have hv_h49:=ivt_ranges_Times_1_3 yz yz 0 yD (List.drop_zero) (Nat.zero_le _) (by omega) (by omega) (by omega)
    rw [h49] at hv_h49
    have hv_h49_0:=hv_h49
    try dsimp only [iv_ranges_Times_1_3] at hv_h49_0
    exact po_pureS ((ranges_Times_1_o11 k yD xk yz)++[]) [(0,.sl false (xk.map Sn.D) 2 none,[0])] (Ai (yx (gO:=zn [(0,⟨xk.map Sn.D,2,false⟩),(1,⟨yz.map Sn.D,2,false⟩)]) (o:=0) (len:=xk.length) (cap:=none) (fz:=false) z6 xk (by kernel_rfl) (by omega)) (Ai (zB (q:=lr_ranges_Times_1_3 yz) (lp_ranges_Times_1_3 yz yz 0 yD (List.drop_zero) (Nat.zero_le _) (by omega) (by omega) (by omega)) h49) (Ai p21 (Ai p20 (Ai p15 trivial))))) (by kernel_rfl)
  |x3 =>
   try dsimp only
   have l5:=(app_row (f:=Sn.D) (te:=zG) (gO:=zn [(0,⟨yD.map Sn.D,2,false⟩),(1,⟨[.agg [I (w64 ((zb (w64 (0 - x.hi)) 0) * k.lo)),I (w64 ((w64 (0 - x.lo)) * k.hi))]],2,false⟩),(2,⟨[.agg [I (w64 ((zb (w64 (0 - x.hi)) 0) * k.lo)),I (w64 ((w64 (0 - x.lo)) * k.hi))]],2,false⟩),(3,⟨[.agg [I (w64 (0 - (w64 ((w64 (0 - x.lo)) * k.hi)))),I (w64 (0 - (w64 ((zb (w64 (0 - x.hi)) 0) * k.lo))))]],2,false⟩)]) (nxt:=4) (o:=0) (o2:=3) (fz:=false) z6 yD (⟨w64 (0 - (w64 ((w64 (0 - x.lo)) * k.hi))),w64 (0 - (w64 ((zb (w64 (0 - x.hi)) 0) * k.lo)))⟩:Sn) (by kernel_rfl) (by kernel_rfl) rfl (by kernel_rfl) (by decide) ⟨by simp only [zG,big]<;>(omega),by simp only [big]<;>(omega)⟩)
   have l6:=(show ∀q,(lim cfg).loop 71 lp71_3 (sd40056 0 1 2 yD x k)=some q→(lim cfg).loop 71 lp71_3 (sd40055 0 1 2 yD x k)=some q from fun q hq=>zw (ks:=[4,22,23,24]) (st':=(sd40057 4 3 2 0 1 5 yD x k)) (st1:=(sd40056 0 1 2 yD x k)) [.dec true,.op (some 37) ⟨.lsl 4 0 ((yD++[(⟨w64 (0 - (w64 ((w64 (0 - x.lo)) * k.hi))),w64 (0 - (w64 ((zb (w64 (0 - x.hi)) 0) * k.lo)))⟩:Sn)]).length) 2 none,[(0,none),(4,some ⟨(yD++[(⟨w64 (0 - (w64 ((w64 (0 - x.lo)) * k.hi))),w64 (0 - (w64 ((zb (w64 (0 - x.hi)) 0) * k.lo)))⟩:Sn)]).map Sn.D,2,false⟩)],[0,3],5⟩,.rw 38 (I 1)] (Ai (zadd_rw (x:=1) (by omega)) (Ai (l5) (Ai (Eq.refl true) trivial))) (by kernel_rfl) (by (simp only [sd40056,sd40057,go_sem,length_set,Nat.reduceAdd,Nat.reduceEqDiff,Nat.reduceLT,Nat.reduceLeDiff,bI2,zc.idsL,zc.renL,zc.snapAll,z6.idsL,z6.renL,z6.snapAll])<;>rfl) hq (by kernel_rfl))
   exact po_pureS [.inl (.lsl 2 0 yD.length 2 none) [(1,⟨[.agg [I k.lo,I k.hi]],2,false⟩),(2,⟨yD.map Sn.D,2,false⟩)] 3,.inl (.lsl 5 0 1 2 none) [(3,⟨[.agg [I k.lo,I k.hi]],2,false⟩),(4,⟨[.agg [I (w64 ((zb (w64 (0 - x.hi)) 0) * k.lo)),I (w64 ((w64 (0 - x.lo)) * k.hi))]],2,false⟩),(5,⟨[.agg [I (w64 ((zb (w64 (0 - x.hi)) 0) * k.lo)),I (w64 ((w64 (0 - x.lo)) * k.hi))]],2,false⟩)] 6,.gloop (sd40055 0 1 2 yD x k) (.exit 0) (sd40058 0 1 2 yD x k)] [(0,.sl false ((yD++[(⟨w64 (0 - (w64 ((w64 (0 - x.lo)) * k.hi))),w64 (0 - (w64 ((zb (w64 (0 - x.hi)) 0) * k.lo)))⟩:Sn)]).map Sn.D) 2 none,[0])] (Ai (yx (gO:=zn [(0,⟨(yD++[(⟨w64 (0 - (w64 ((w64 (0 - x.lo)) * k.hi))),w64 (0 - (w64 ((zb (w64 (0 - x.hi)) 0) * k.lo)))⟩:Sn)]).map Sn.D,2,false⟩),(1,⟨[.agg [I (w64 ((zb (w64 (0 - x.hi)) 0) * k.lo)),I (w64 ((w64 (0 - x.lo)) * k.hi))]],2,false⟩)]) (o:=0) (len:=(yD++[(⟨w64 (0 - (w64 ((w64 (0 - x.lo)) * k.hi))),w64 (0 - (w64 ((zb (w64 (0 - x.hi)) 0) * k.lo)))⟩:Sn)]).length) (cap:=none) (fz:=false) z6 (yD++[(⟨w64 (0 - (w64 ((w64 (0 - x.lo)) * k.hi))),w64 (0 - (w64 ((zb (w64 (0 - x.hi)) 0) * k.lo)))⟩:Sn)]) (by kernel_rfl) (by omega)) (Ai (show (lim cfg).loop 71 lp71_3 (sd40055 0 1 2 yD x k)=some ((.exit 0),(sd40058 0 1 2 yD x k)) from (l6 _ (zr [.dec false] (Ai (Eq.refl false) trivial) (by kernel_rfl)))) (Ai (gc_of (C:=cfg) (f:=71) (a:=lp71_3) (ks:=[4,22,23,24]) (st:=(sd40059 5 0 2 1 3 4 6 k x yD)) (st1:=(sd40055 0 1 2 yD x k)) (by kernel_rfl) (by (simp only [sd40055,sd40059,go_sem,length_set,Nat.reduceAdd,Nat.reduceEqDiff,Nat.reduceLT,Nat.reduceLeDiff,bI2,zc.idsL,zc.renL,zc.snapAll,z6.idsL,z6.renL,z6.snapAll])<;>rfl)) (Ai (show (lim cfg).inl 72 [I (zb (w64 (0 - x.hi)) 0),I (w64 (0 - x.lo)),.agg [I k.lo,I k.hi]] [] 3=some (.lsl 5 0 1 2 none,[(3,⟨[.agg [I k.lo,I k.hi]],2,false⟩),(4,⟨[.agg [I (w64 ((zb (w64 (0 - x.hi)) 0) * k.lo)),I (w64 ((w64 (0 - x.lo)) * k.hi))]],2,false⟩),(5,⟨[.agg [I (w64 ((zb (w64 (0 - x.hi)) 0) * k.lo)),I (w64 ((w64 (0 - x.lo)) * k.hi))]],2,false⟩)],6) from zP [.loop .ret (sd40025 5 4 3 6 x k)] (Ai (zB (q:=lr_ranges_products_3p2 k (w64 (0 - x.lo)) (zb (w64 (0 - x.hi)) 0)) (lp_ranges_products_3p2 k (w64 (0 - x.lo)) (zb (w64 (0 - x.hi)) 0) 2051 (yh _ _ _)) h46) trivial) (by kernel_rfl)) (Ai p15 trivial))))) (by kernel_rfl)
  |x4 =>
   try dsimp only
   exact po_pureS [.inl (.lsl 2 0 yD.length 2 none) [(1,⟨[.agg [I k.lo,I k.hi]],2,false⟩),(2,⟨yD.map Sn.D,2,false⟩)] 3,.inl (.sl true [] 0 none) [(3,⟨[.agg [I k.lo,I k.hi]],2,false⟩)] 4,.gloop ⟨40,[(4,.lsl 0 0 yD.length 2 none),(22,.sl true [] 0 none),(23,I 0),(24,I 0)],[(0,⟨yD.map Sn.D,2,false⟩)],1,0⟩ (.exit 0) ⟨40,[(25,B false),(4,.lsl 0 0 yD.length 2 none),(22,.sl true [] 0 none),(23,I 0),(24,I 0)],[(0,⟨yD.map Sn.D,2,false⟩)],1,0⟩] [(0,.sl false (yD.map Sn.D) 2 none,[0])] (Ai (yx (gO:=zn [(0,⟨yD.map Sn.D,2,false⟩)]) (o:=0) (len:=yD.length) (cap:=none) (fz:=false) z6 yD (by kernel_rfl) (by omega)) (Ai (show (lim cfg).loop 71 lp71_3 ⟨40,[(4,.lsl 0 0 yD.length 2 none),(22,.sl true [] 0 none),(23,I 0),(24,I 0)],[(0,⟨yD.map Sn.D,2,false⟩)],1,0⟩=some ((.exit 0),⟨40,[(25,B false),(4,.lsl 0 0 yD.length 2 none),(22,.sl true [] 0 none),(23,I 0),(24,I 0)],[(0,⟨yD.map Sn.D,2,false⟩)],1,0⟩) from (zr [.dec false] (Ai (Eq.refl false) trivial) (by kernel_rfl))) (Ai (gc_of (C:=cfg) (f:=71) (a:=lp71_3) (ks:=[4,22,23,24]) (st:=(sd40060 0 2 1 3 4 k x yD)) (st1:=⟨40,[(4,.lsl 0 0 yD.length 2 none),(22,.sl true [] 0 none),(23,I 0),(24,I 0)],[(0,⟨yD.map Sn.D,2,false⟩)],1,0⟩) (by kernel_rfl) (by (simp only [sd40060,go_sem,length_set,Nat.reduceAdd,Nat.reduceEqDiff,Nat.reduceLT,Nat.reduceLeDiff,bI2,zc.idsL,zc.renL,zc.snapAll,z6.idsL,z6.renL,z6.snapAll])<;>rfl)) (Ai (show (lim cfg).inl 72 [I (zb (w64 (0 - x.hi)) 0),I (w64 (0 - x.lo)),.agg [I k.lo,I k.hi]] [] 3=some (.sl true [] 0 none,[(3,⟨[.agg [I k.lo,I k.hi]],2,false⟩)],4) from zP [.loop (.exit 0) (sd40031 3 4 x k)] (Ai (zB (q:=lr_ranges_products_3p2 k (w64 (0 - x.lo)) (zb (w64 (0 - x.hi)) 0)) (lp_ranges_products_3p2 k (w64 (0 - x.lo)) (zb (w64 (0 - x.hi)) 0) 2051 (yh _ _ _)) h46) trivial) (by kernel_rfl)) (Ai p15 trivial))))) (by kernel_rfl)
  |out =>
   exact absurd h46 ((yh _ _ _))
 |x3 =>
  try dsimp only
  have p22:=(show (lim cfg).inl 72 [I (zb x.lo 0),I x.hi,.agg [I k.lo,I k.hi]] [] 1=some (.lsl 3 0 1 2 none,[(1,⟨[.agg [I k.lo,I k.hi]],2,false⟩),(2,⟨[.agg [I (w64 ((zb x.lo 0) * k.lo)),I (w64 (x.hi * k.hi))]],2,false⟩),(3,⟨[.agg [I (w64 ((zb x.lo 0) * k.lo)),I (w64 (x.hi * k.hi))]],2,false⟩)],4) from zP [.loop .ret (sd40061 3 2 1 4 x k)] (Ai (zB (q:=lr_ranges_products_3 x k (zb x.lo 0)) (lp_ranges_products_3 x k (zb x.lo 0) 2051 (ranges_products_3_ne _ _ _)) h13) trivial) (by kernel_rfl))
  cases h62:y6 k (w64 (0 - x.lo)) (zb (w64 (0 - x.hi)) 0) 2051 with
  |x0 yB yP =>
   try dsimp only
   have hv_h62:=ivt_ranges_products_3p3 k (w64 (0 - x.lo)) (zb (w64 (0 - x.hi)) 0) 2051 (yi _ _ _)
   rw [h62] at hv_h62
   have hv_h62_0:=hv_h62
   try dsimp only [iv_ranges_products_3p3] at hv_h62_0
   have p23:=(show (lim cfg).inl 72 [I (zb (w64 (0 - x.hi)) 0),I (w64 (0 - x.lo)),.agg [I k.lo,I k.hi]] [] 4=some (.lsl 7 0 ((yB++[(⟨w64 (yP * k.lo),w64 ((w64 (0 - x.lo)) * k.hi)⟩:Sn)]).length) 2 none,[(4,⟨[.agg [I k.lo,I k.hi]],2,false⟩),(6,⟨[.agg [I (w64 (yP * k.lo)),I (w64 ((w64 (0 - x.lo)) * k.hi))]],2,false⟩),(7,⟨(yB++[(⟨w64 (yP * k.lo),w64 ((w64 (0 - x.lo)) * k.hi)⟩:Sn)]).map Sn.D,2,false⟩)],8) from zP [.loop .ret (sd40012 7 6 4 5 8 yB yP k x)] (Ai (zB (q:=lr_ranges_products_3p3 k (w64 (0 - x.lo)) (zb (w64 (0 - x.hi)) 0)) (lp_ranges_products_3p3 k (w64 (0 - x.lo)) (zb (w64 (0 - x.hi)) 0) 2051 (yi _ _ _)) h62) trivial) (by kernel_rfl))
   have p24:=(gc_of (C:=cfg) (f:=71) (a:=lp71_3) (ks:=[4,22,23,24]) (st:=(sd40062 7 0 3 1 2 4 6 8 yB yP k x)) (st1:=(sd40063 0 1 2 yB yP k x)) (by kernel_rfl) (by (simp only [sd40062,sd40063,go_sem,length_set,Nat.reduceAdd,Nat.reduceEqDiff,Nat.reduceLT,Nat.reduceLeDiff,bI2,zc.idsL,zc.renL,zc.snapAll,z6.idsL,z6.renL,z6.snapAll])<;>rfl))
   cases h63:zT (yB++[(⟨w64 (yP * k.lo),w64 ((w64 (0 - x.lo)) * k.hi)⟩:Sn)]) [(⟨(w64 ((zb x.lo 0) * k.lo)),(w64 (x.hi * k.hi))⟩:Sn)] with
   |x0 xn =>
    try dsimp only
    have hv_h63:=ivt_ranges_Times_1_3p1 (yB++[(⟨w64 (yP * k.lo),w64 ((w64 (0 - x.lo)) * k.hi)⟩:Sn)]) (yB++[(⟨w64 (yP * k.lo),w64 ((w64 (0 - x.lo)) * k.hi)⟩:Sn)]) 0 [(⟨(w64 ((zb x.lo 0) * k.lo)),(w64 (x.hi * k.hi))⟩:Sn)] (List.drop_zero) (Nat.zero_le _) (by simp only [length_append,length_cons,length_nil] at *<;>omega) (by simp only [length_append,length_cons,length_nil] at *<;>omega) (by simp only [length_append,length_cons,length_nil] at *<;>omega)
    rw [h63] at hv_h63
    have hv_h63_0:=hv_h63
    try dsimp only [iv_ranges_Times_1_3p1] at hv_h63_0
    exact po_pureS ((ranges_Times_1_o12 x k)++((ranges_Times_1_o13 x k yB yP xn)++[])) [(0,.sl false (xn.map Sn.D) 2 none,[0])] (Ai (yx (gO:=zn [(0,⟨xn.map Sn.D,2,false⟩),(1,⟨(yB++[(⟨w64 (yP * k.lo),w64 ((w64 (0 - x.lo)) * k.hi)⟩:Sn)]).map Sn.D,2,false⟩)]) (o:=0) (len:=xn.length) (cap:=none) (fz:=false) z6 xn (by kernel_rfl) (by omega)) (Ai (zB (q:=lr_ranges_Times_1_3p1 (yB++[(⟨w64 (yP * k.lo),w64 ((w64 (0 - x.lo)) * k.hi)⟩:Sn)])) (lp_ranges_Times_1_3p1 (yB++[(⟨w64 (yP * k.lo),w64 ((w64 (0 - x.lo)) * k.hi)⟩:Sn)]) (yB++[(⟨w64 (yP * k.lo),w64 ((w64 (0 - x.lo)) * k.hi)⟩:Sn)]) 0 [(⟨(w64 ((zb x.lo 0) * k.lo)),(w64 (x.hi * k.hi))⟩:Sn)] (List.drop_zero) (Nat.zero_le _) (by simp only [length_append,length_cons,length_nil] at *<;>omega) (by simp only [length_append,length_cons,length_nil] at *<;>omega) (by simp only [length_append,length_cons,length_nil] at *<;>omega)) h63) (Ai p24 (Ai p23 (Ai p22 trivial))))) (by kernel_rfl)
  |x1 yB yP =>
   try dsimp only
   have hv_h62:=ivt_ranges_products_3p3 k (w64 (0 - x.lo)) (zb (w64 (0 - x.hi)) 0) 2051 (yi _ _ _)
   rw [h62] at hv_h62
   have hv_h62_0:=hv_h62
   try dsimp only [iv_ranges_products_3p3] at hv_h62_0
   have p25:=(show (lim cfg).inl 72 [I (zb (w64 (0 - x.hi)) 0),I (w64 (0 - x.lo)),.agg [I k.lo,I k.hi]] [] 4=some (.lsl 7 0 ((yB++[(⟨w64 (yP * k.lo),w64 (yP * k.hi)⟩:Sn)]).length) 2 none,[(4,⟨[.agg [I k.lo,I k.hi]],2,false⟩),(6,⟨[.agg [I (w64 (yP * k.lo)),I (w64 (yP * k.hi))]],2,false⟩),(7,⟨(yB++[(⟨w64 (yP * k.lo),w64 (yP * k.hi)⟩:Sn)]).map Sn.D,2,false⟩)],8) from zP [.loop (.exit 0) (sd40018 7 6 4 5 8 yB yP k x)] (Ai (zB (q:=lr_ranges_products_3p3 k (w64 (0 - x.lo)) (zb (w64 (0 - x.hi)) 0)) (lp_ranges_products_3p3 k (w64 (0 - x.lo)) (zb (w64 (0 - x.hi)) 0) 2051 (yi _ _ _)) h62) trivial) (by kernel_rfl))
   have p26:=(gc_of (C:=cfg) (f:=71) (a:=lp71_3) (ks:=[4,22,23,24]) (st:=(sd40064 7 0 3 1 2 4 6 8 yB yP k x)) (st1:=(sd40065 0 1 2 yB yP k x)) (by kernel_rfl) (by (simp only [sd40064,sd40065,go_sem,length_set,Nat.reduceAdd,Nat.reduceEqDiff,Nat.reduceLT,Nat.reduceLeDiff,bI2,zc.idsL,zc.renL,zc.snapAll,z6.idsL,z6.renL,z6.snapAll])<;>rfl))
   cases h64:zT (yB++[(⟨w64 (yP * k.lo),w64 (yP * k.hi)⟩:Sn)]) [(⟨(w64 ((zb x.lo 0) * k.lo)),(w64 (x.hi * k.hi))⟩:Sn)] with
   |x0 xn =>
    try dsimp only
    have hv_h64:=ivt_ranges_Times_1_3p1 (yB++[(⟨w64 (yP * k.lo),w64 (yP * k.hi)⟩:Sn)]) (yB++[(⟨w64 (yP * k.lo),w64 (yP * k.hi)⟩:Sn)]) 0 [(⟨(w64 ((zb x.lo 0) * k.lo)),(w64 (x.hi * k.hi))⟩:Sn)] (List.drop_zero) (Nat.zero_le _) (by simp only [length_append,length_cons,length_nil] at *<;>omega) (by simp only [length_append,length_cons,length_nil] at *<;>omega) (by simp only [length_append,length_cons,length_nil] at *<;>omega)
    rw [h64] at hv_h64
    have hv_h64_0:=hv_h64
    try dsimp only [iv_ranges_Times_1_3p1] at hv_h64_0
    exact po_pureS ((ranges_Times_1_o12 x k)++((ranges_Times_1_o14 x k yB yP xn)++[])) [(0,.sl false (xn.map Sn.D) 2 none,[0])] (Ai (yx (gO:=zn [(0,⟨xn.map Sn.D,2,false⟩),(1,⟨(yB++[(⟨w64 (yP * k.lo),w64 (yP * k.hi)⟩:Sn)]).map Sn.D,2,false⟩)]) (o:=0) (len:=xn.length) (cap:=none) (fz:=false) z6 xn (by kernel_rfl) (by omega)) (Ai (zB (q:=lr_ranges_Times_1_3p1 (yB++[(⟨w64 (yP * k.lo),w64 (yP * k.hi)⟩:Sn)])) (lp_ranges_Times_1_3p1 (yB++[(⟨w64 (yP * k.lo),w64 (yP * k.hi)⟩:Sn)]) (yB++[(⟨w64 (yP * k.lo),w64 (yP * k.hi)⟩:Sn)]) 0 [(⟨(w64 ((zb x.lo 0) * k.lo)),(w64 (x.hi * k.hi))⟩:Sn)] (List.drop_zero) (Nat.zero_le _) (by simp only [length_append,length_cons,length_nil] at *<;>omega) (by simp only [length_append,length_cons,length_nil] at *<;>omega) (by simp only [length_append,length_cons,length_nil] at *<;>omega)) h64) (Ai p26 (Ai p25 (Ai p22 trivial))))) (by kernel_rfl)
  |x2 yB yP =>
   try dsimp only
   have hv_h62:=ivt_ranges_products_3p3 k (w64 (0 - x.lo)) (zb (w64 (0 - x.hi)) 0) 2051 (yi _ _ _)
   rw [h62] at hv_h62
   have hv_h62_0:=hv_h62
   try dsimp only [iv_ranges_products_3p3] at hv_h62_0
   have p27:=(show (lim cfg).inl 72 [I (zb (w64 (0 - x.hi)) 0),I (w64 (0 - x.lo)),.agg [I k.lo,I k.hi]] [] 4=some (.lsl 5 0 yB.length 2 none,[(4,⟨[.agg [I k.lo,I k.hi]],2,false⟩),(5,⟨yB.map Sn.D,2,false⟩)],6) from zP [.loop (.exit 0) (sd40022 4 5 6 x yP yB k)] (Ai (zB (q:=lr_ranges_products_3p3 k (w64 (0 - x.lo)) (zb (w64 (0 - x.hi)) 0)) (lp_ranges_products_3p3 k (w64 (0 - x.lo)) (zb (w64 (0 - x.hi)) 0) 2051 (yi _ _ _)) h62) trivial) (by kernel_rfl))
   have p28:=(gc_of (C:=cfg) (f:=71) (a:=lp71_3) (ks:=[4,22,23,24]) (st:=(sd40066 5 0 3 1 2 4 6 yB k x)) (st1:=(sd40067 0 1 2 yB x k)) (by kernel_rfl) (by (simp only [sd40066,sd40067,go_sem,length_set,Nat.reduceAdd,Nat.reduceEqDiff,Nat.reduceLT,Nat.reduceLeDiff,bI2,zc.idsL,zc.renL,zc.snapAll,z6.idsL,z6.renL,z6.snapAll])<;>rfl))
   cases h65:zT yB [(⟨(w64 ((zb x.lo 0) * k.lo)),(w64 (x.hi * k.hi))⟩:Sn)] with
   |x0 xn =>
    try dsimp only
    have hv_h65:=ivt_ranges_Times_1_3p1 yB yB 0 [(⟨(w64 ((zb x.lo 0) * k.lo)),(w64 (x.hi * k.hi))⟩:Sn)] (List.drop_zero) (Nat.zero_le _) (by omega) (by simp only [length_append,length_cons,length_nil] at *<;>omega) (by omega)
    rw [h65] at hv_h65
    have hv_h65_0:=hv_h65
    try dsimp only [iv_ranges_Times_1_3p1] at hv_h65_0
    exact po_pureS ((ranges_Times_1_o12 x k)++((ranges_Times_1_o15 x k yB xn)++[])) [(0,.sl false (xn.map Sn.D) 2 none,[0])] (Ai (yx (gO:=zn [(0,⟨xn.map Sn.D,2,false⟩),(1,⟨yB.map Sn.D,2,false⟩)]) (o:=0) (len:=xn.length) (cap:=none) (fz:=false) z6 xn (by kernel_rfl) (by omega)) (Ai (zB (q:=lr_ranges_Times_1_3p1 yB) (lp_ranges_Times_1_3p1 yB yB 0 [(⟨(w64 ((zb x.lo 0) * k.lo)),(w64 (x.hi * k.hi))⟩:Sn)] (List.drop_zero) (Nat.zero_le _) (by omega) (by simp only [length_append,length_cons,length_nil] at *<;>omega) (by omega)) h65) (Ai p28 (Ai p27 (Ai p22 trivial))))) (by kernel_rfl)
  |x3 =>
   try dsimp only
   have l7:=(show ∀q,(lim cfg).loop 71 lp71_3 (sd40069 0 1 2 x k)=some q→(lim cfg).loop 71 lp71_3 (sd40068 0 1 2 x k)=some q from fun q hq=>po_turn (st1:=(sd40069 0 1 2 x k)) [.dec true,.rw 38 (I 1)] (Ai (zadd_rw (x:=1) (by omega)) (Ai (Eq.refl true) trivial)) hq (by kernel_rfl))
   exact zl ((ranges_Times_1_o12 x k)++[.inl (.lsl 6 0 1 2 none) [(4,⟨[.agg [I k.lo,I k.hi]],2,false⟩),(5,⟨[.agg [I (w64 ((zb (w64 (0 - x.hi)) 0) * k.lo)),I (w64 ((w64 (0 - x.lo)) * k.hi))]],2,false⟩),(6,⟨[.agg [I (w64 ((zb (w64 (0 - x.hi)) 0) * k.lo)),I (w64 ((w64 (0 - x.lo)) * k.hi))]],2,false⟩)] 7,.loop (.exit 0) (sd40070 0 1 2 x k)]) (Ai (show (lim cfg).loop 71 lp71_3 (sd40068 0 1 2 x k)=some ((.exit 0),(sd40070 0 1 2 x k)) from (l7 _ (zr [.dec false] (Ai (Eq.refl false) trivial) (by kernel_rfl)))) (Ai (show (lim cfg).inl 72 [I (zb (w64 (0 - x.hi)) 0),I (w64 (0 - x.lo)),.agg [I k.lo,I k.hi]] [] 4=some (.lsl 6 0 1 2 none,[(4,⟨[.agg [I k.lo,I k.hi]],2,false⟩),(5,⟨[.agg [I (w64 ((zb (w64 (0 - x.hi)) 0) * k.lo)),I (w64 ((w64 (0 - x.lo)) * k.hi))]],2,false⟩),(6,⟨[.agg [I (w64 ((zb (w64 (0 - x.hi)) 0) * k.lo)),I (w64 ((w64 (0 - x.lo)) * k.hi))]],2,false⟩)],7) from zP [.loop .ret (sd40025 6 5 4 7 x k)] (Ai (zB (q:=lr_ranges_products_3p3 k (w64 (0 - x.lo)) (zb (w64 (0 - x.hi)) 0)) (lp_ranges_products_3p3 k (w64 (0 - x.lo)) (zb (w64 (0 - x.hi)) 0) 2051 (yi _ _ _)) h62) trivial) (by kernel_rfl)) (Ai p22 trivial))) (by kernel_rfl)
  |x4 =>
   try dsimp only
   exact zl ((ranges_Times_1_o12 x k)++[.inl (.sl true [] 0 none) [(4,⟨[.agg [I k.lo,I k.hi]],2,false⟩)] 5,.loop (.exit 0) (sd40072 0 1 x k)]) (Ai (show (lim cfg).loop 71 lp71_3 (sd40071 0 1 x k)=some ((.exit 0),(sd40072 0 1 x k)) from (zr [.dec false] (Ai (Eq.refl false) trivial) (by kernel_rfl))) (Ai (show (lim cfg).inl 72 [I (zb (w64 (0 - x.hi)) 0),I (w64 (0 - x.lo)),.agg [I k.lo,I k.hi]] [] 4=some (.sl true [] 0 none,[(4,⟨[.agg [I k.lo,I k.hi]],2,false⟩)],5) from zP [.loop (.exit 0) (sd40031 4 5 x k)] (Ai (zB (q:=lr_ranges_products_3p3 k (w64 (0 - x.lo)) (zb (w64 (0 - x.hi)) 0)) (lp_ranges_products_3p3 k (w64 (0 - x.lo)) (zb (w64 (0 - x.hi)) 0) 2051 (yi _ _ _)) h62) trivial) (by kernel_rfl)) (Ai p22 trivial))) (by kernel_rfl)
  |out =>
   exact absurd h62 ((yi _ _ _))
 |x4 =>
  try dsimp only
  have p29:=(show (lim cfg).inl 72 [I (zb x.lo 0),I x.hi,.agg [I k.lo,I k.hi]] [] 1=some (.sl true [] 0 none,[(1,⟨[.agg [I k.lo,I k.hi]],2,false⟩)],2) from zP [.loop (.exit 0) (sd40073 1 2 x k)] (Ai (zB (q:=lr_ranges_products_3 x k (zb x.lo 0)) (lp_ranges_products_3 x k (zb x.lo 0) 2051 (ranges_products_3_ne _ _ _)) h13) trivial) (by kernel_rfl))
  cases h78:y7 k (w64 (0 - x.lo)) (zb (w64 (0 - x.hi)) 0) 2051 with
  |x0 yN yL =>
   try dsimp only
   have hv_h78:=ivt_ranges_products_3p4 k (w64 (0 - x.lo)) (zb (w64 (0 - x.hi)) 0) 2051 (yj _ _ _)
   rw [h78] at hv_h78
   have hv_h78_0:=hv_h78
   try dsimp only [iv_ranges_products_3p4] at hv_h78_0
   have p30:=(show (lim cfg).inl 72 [I (zb (w64 (0 - x.hi)) 0),I (w64 (0 - x.lo)),.agg [I k.lo,I k.hi]] [] 2=some (.lsl 5 0 ((yN++[(⟨w64 (yL * k.lo),w64 ((w64 (0 - x.lo)) * k.hi)⟩:Sn)]).length) 2 none,[(2,⟨[.agg [I k.lo,I k.hi]],2,false⟩),(4,⟨[.agg [I (w64 (yL * k.lo)),I (w64 ((w64 (0 - x.lo)) * k.hi))]],2,false⟩),(5,⟨(yN++[(⟨w64 (yL * k.lo),w64 ((w64 (0 - x.lo)) * k.hi)⟩:Sn)]).map Sn.D,2,false⟩)],6) from zP [.loop .ret (sd40012 5 4 2 3 6 yN yL k x)] (Ai (zB (q:=lr_ranges_products_3p4 k (w64 (0 - x.lo)) (zb (w64 (0 - x.hi)) 0)) (lp_ranges_products_3p4 k (w64 (0 - x.lo)) (zb (w64 (0 - x.hi)) 0) 2051 (yj _ _ _)) h78) trivial) (by kernel_rfl))
   have p31:=(gc_of (C:=cfg) (f:=71) (a:=lp71_3) (ks:=[4,22,23,24]) (st:=(sd40076 5 0 1 2 4 6 yN yL k x)) (st1:=(sd40077 0 1 yN yL k x)) (by kernel_rfl) (by (simp only [sd40076,sd40077,go_sem,length_set,Nat.reduceAdd,Nat.reduceEqDiff,Nat.reduceLT,Nat.reduceLeDiff,bI2,zc.idsL,zc.renL,zc.snapAll,z6.idsL,z6.renL,z6.snapAll])<;>rfl))
   cases h79:zX (yN++[(⟨w64 (yL * k.lo),w64 ((w64 (0 - x.lo)) * k.hi)⟩:Sn)]) with
   |x0 yz =>
    try dsimp only
    have hv_h79:=ivt_ranges_Times_1_3p2 (yN++[(⟨w64 (yL * k.lo),w64 ((w64 (0 - x.lo)) * k.hi)⟩:Sn)]) (yN++[(⟨w64 (yL * k.lo),w64 ((w64 (0 - x.lo)) * k.hi)⟩:Sn)]) 0 (List.drop_zero) (Nat.zero_le _) (by simp only [length_append,length_cons,length_nil] at *<;>omega) (by simp only [length_append,length_cons,length_nil] at *<;>omega)
    rw [h79] at hv_h79
    have hv_h79_0:=hv_h79
    try dsimp only [iv_ranges_Times_1_3p2] at hv_h79_0
    exact po_pureS ((ranges_Times_1_o16 x k yN yL)++[.gloop (sd40077 0 1 yN yL k x) (.exit 0) (sd40017 0 1 2 yz yN yL k x)]) [(0,.sl false (yz.map Sn.D) 2 none,[0])] (Ai (yx (gO:=zn [(0,⟨yz.map Sn.D,2,false⟩),(1,⟨(yN++[(⟨w64 (yL * k.lo),w64 ((w64 (0 - x.lo)) * k.hi)⟩:Sn)]).map Sn.D,2,false⟩)]) (o:=0) (len:=yz.length) (cap:=none) (fz:=false) z6 yz (by kernel_rfl) (by omega)) (Ai (zB (q:=lr_ranges_Times_1_3p2 (yN++[(⟨w64 (yL * k.lo),w64 ((w64 (0 - x.lo)) * k.hi)⟩:Sn)])) (lp_ranges_Times_1_3p2 (yN++[(⟨w64 (yL * k.lo),w64 ((w64 (0 - x.lo)) * k.hi)⟩:Sn)]) (yN++[(⟨w64 (yL * k.lo),w64 ((w64 (0 - x.lo)) * k.hi)⟩:Sn)]) 0 (List.drop_zero) (Nat.zero_le _) (by simp only [length_append,length_cons,length_nil] at *<;>omega) (by simp only [length_append,length_cons,length_nil] at *<;>omega)) h79) (Ai p31 (Ai p30 (Ai p29 trivial))))) (by kernel_rfl)
   |x1 =>
    try dsimp only
    exact zl ((ranges_Times_1_o16 x k yN yL)++[.gloop (sd40077 0 1 yN yL k x) (.exit 0) (sd40078 0 1 yN yL k x)]) (Ai (zB (q:=lr_ranges_Times_1_3p2 (yN++[(⟨w64 (yL * k.lo),w64 ((w64 (0 - x.lo)) * k.hi)⟩:Sn)])) (lp_ranges_Times_1_3p2 (yN++[(⟨w64 (yL * k.lo),w64 ((w64 (0 - x.lo)) * k.hi)⟩:Sn)]) (yN++[(⟨w64 (yL * k.lo),w64 ((w64 (0 - x.lo)) * k.hi)⟩:Sn)]) 0 (List.drop_zero) (Nat.zero_le _) (by simp only [length_append,length_cons,length_nil] at *<;>omega) (by simp only [length_append,length_cons,length_nil] at *<;>omega)) h79) (Ai p31 (Ai p30 (Ai p29 trivial)))) (by kernel_rfl)
  |x1 yN yL =>
   try dsimp only
   have hv_h78:=ivt_ranges_products_3p4 k (w64 (0 - x.lo)) (zb (w64 (0 - x.hi)) 0) 2051 (yj _ _ _)
   rw [h78] at hv_h78
   have hv_h78_0:=hv_h78
   try dsimp only [iv_ranges_products_3p4] at hv_h78_0
   have p32:=(show (lim cfg).inl 72 [I (zb (w64 (0 - x.hi)) 0),I (w64 (0 - x.lo)),.agg [I k.lo,I k.hi]] [] 2=some (.lsl 5 0 ((yN++[(⟨w64 (yL * k.lo),w64 (yL * k.hi)⟩:Sn)]).length) 2 none,[(2,⟨[.agg [I k.lo,I k.hi]],2,false⟩),(4,⟨[.agg [I (w64 (yL * k.lo)),I (w64 (yL * k.hi))]],2,false⟩),(5,⟨(yN++[(⟨w64 (yL * k.lo),w64 (yL * k.hi)⟩:Sn)]).map Sn.D,2,false⟩)],6) from zP [.loop (.exit 0) (sd40018 5 4 2 3 6 yN yL k x)] (Ai (zB (q:=lr_ranges_products_3p4 k (w64 (0 - x.lo)) (zb (w64 (0 - x.hi)) 0)) (lp_ranges_products_3p4 k (w64 (0 - x.lo)) (zb (w64 (0 - x.hi)) 0) 2051 (yj _ _ _)) h78) trivial) (by kernel_rfl))
   have p33:=(gc_of (C:=cfg) (f:=71) (a:=lp71_3) (ks:=[4,22,23,24]) (st:=(sd40079 5 0 1 2 4 6 yN yL k x)) (st1:=(sd40080 0 1 yN yL k)) (by kernel_rfl) (by (simp only [sd40079,sd40080,go_sem,length_set,Nat.reduceAdd,Nat.reduceEqDiff,Nat.reduceLT,Nat.reduceLeDiff,bI2,zc.idsL,zc.renL,zc.snapAll,z6.idsL,z6.renL,z6.snapAll])<;>rfl))
   cases h80:zX (yN++[(⟨w64 (yL * k.lo),w64 (yL * k.hi)⟩:Sn)]) with
   |x0 yz =>
    try dsimp only
    have hv_h80:=ivt_ranges_Times_1_3p2 (yN++[(⟨w64 (yL * k.lo),w64 (yL * k.hi)⟩:Sn)]) (yN++[(⟨w64 (yL * k.lo),w64 (yL * k.hi)⟩:Sn)]) 0 (List.drop_zero) (Nat.zero_le _) (by simp only [length_append,length_cons,length_nil] at *<;>omega) (by simp only [length_append,length_cons,length_nil] at *<;>omega)
    rw [h80] at hv_h80
    have hv_h80_0:=hv_h80
    try dsimp only [iv_ranges_Times_1_3p2] at hv_h80_0
    exact po_pureS ((ranges_Times_1_o17 k yN yL)++[.gloop (sd40080 0 1 yN yL k) (.exit 0) (sd40021 0 1 2 yz yN yL k)]) [(0,.sl false (yz.map Sn.D) 2 none,[0])] (Ai (yx (gO:=zn [(0,⟨yz.map Sn.D,2,false⟩),(1,⟨(yN++[(⟨w64 (yL * k.lo),w64 (yL * k.hi)⟩:Sn)]).map Sn.D,2,false⟩)]) (o:=0) (len:=yz.length) (cap:=none) (fz:=false) z6 yz (by kernel_rfl) (by omega)) (Ai (zB (q:=lr_ranges_Times_1_3p2 (yN++[(⟨w64 (yL * k.lo),w64 (yL * k.hi)⟩:Sn)])) (lp_ranges_Times_1_3p2 (yN++[(⟨w64 (yL * k.lo),w64 (yL * k.hi)⟩:Sn)]) (yN++[(⟨w64 (yL * k.lo),w64 (yL * k.hi)⟩:Sn)]) 0 (List.drop_zero) (Nat.zero_le _) (by simp only [length_append,length_cons,length_nil] at *<;>omega) (by simp only [length_append,length_cons,length_nil] at *<;>omega)) h80) (Ai p33 (Ai p32 (Ai p29 trivial))))) (by kernel_rfl)
   |x1 =>
    try dsimp only
    exact zl ((ranges_Times_1_o17 k yN yL)++[.gloop (sd40080 0 1 yN yL k) (.exit 0) (sd40081 0 1 yN yL k)]) (Ai (zB (q:=lr_ranges_Times_1_3p2 (yN++[(⟨w64 (yL * k.lo),w64 (yL * k.hi)⟩:Sn)])) (lp_ranges_Times_1_3p2 (yN++[(⟨w64 (yL * k.lo),w64 (yL * k.hi)⟩:Sn)]) (yN++[(⟨w64 (yL * k.lo),w64 (yL * k.hi)⟩:Sn)]) 0 (List.drop_zero) (Nat.zero_le _) (by simp only [length_append,length_cons,length_nil] at *<;>omega) (by simp only [length_append,length_cons,length_nil] at *<;>omega)) h80) (Ai p33 (Ai p32 (Ai p29 trivial)))) (by kernel_rfl)
  |x2 yN yL =>
   try dsimp only
   have hv_h78:=ivt_ranges_products_3p4 k (w64 (0 - x.lo)) (zb (w64 (0 - x.hi)) 0) 2051 (yj _ _ _)
   rw [h78] at hv_h78
   have hv_h78_0:=hv_h78
   try dsimp only [iv_ranges_products_3p4] at hv_h78_0
   have p34:=(show (lim cfg).inl 72 [I (zb (w64 (0 - x.hi)) 0),I (w64 (0 - x.lo)),.agg [I k.lo,I k.hi]] [] 2=some (.lsl 3 0 yN.length 2 none,[(2,⟨[.agg [I k.lo,I k.hi]],2,false⟩),(3,⟨yN.map Sn.D,2,false⟩)],4) from zP [.loop (.exit 0) (sd40022 2 3 4 x yL yN k)] (Ai (zB (q:=lr_ranges_products_3p4 k (w64 (0 - x.lo)) (zb (w64 (0 - x.hi)) 0)) (lp_ranges_products_3p4 k (w64 (0 - x.lo)) (zb (w64 (0 - x.hi)) 0) 2051 (yj _ _ _)) h78) trivial) (by kernel_rfl))
   have p35:=(gc_of (C:=cfg) (f:=71) (a:=lp71_3) (ks:=[4,22,23,24]) (st:=(sd40082 3 0 1 2 4 yN k x)) (st1:=(sd40083 0 1 yN)) (by kernel_rfl) (by (simp only [sd40082,sd40083,go_sem,length_set,Nat.reduceAdd,Nat.reduceEqDiff,Nat.reduceLT,Nat.reduceLeDiff,bI2,zc.idsL,zc.renL,zc.snapAll,z6.idsL,z6.renL,z6.snapAll])<;>rfl))
   cases h81:zX yN with
   |x0 yz =>
    try dsimp only
    have hv_h81:=ivt_ranges_Times_1_3p2 yN yN 0 (List.drop_zero) (Nat.zero_le _) (by omega) (by omega)
    rw [h81] at hv_h81
    have hv_h81_0:=hv_h81
    try dsimp only [iv_ranges_Times_1_3p2] at hv_h81_0
    exact po_pureS ((ranges_Times_1_o18 k yN)++[.gloop (sd40083 0 1 yN) (.exit 0) (sd40013 0 1 2 yz yN)]) [(0,.sl false (yz.map Sn.D) 2 none,[0])] (Ai (yx (gO:=zn [(0,⟨yz.map Sn.D,2,false⟩),(1,⟨yN.map Sn.D,2,false⟩)]) (o:=0) (len:=yz.length) (cap:=none) (fz:=false) z6 yz (by kernel_rfl) (by omega)) (Ai (zB (q:=lr_ranges_Times_1_3p2 yN) (lp_ranges_Times_1_3p2 yN yN 0 (List.drop_zero) (Nat.zero_le _) (by omega) (by omega)) h81) (Ai p35 (Ai p34 (Ai p29 trivial))))) (by kernel_rfl)
   |x1 =>
    try dsimp only
    exact zl ((ranges_Times_1_o18 k yN)++[.gloop (sd40083 0 1 yN) (.exit 0) (sd40074 0 1 yN)]) (Ai (zB (q:=lr_ranges_Times_1_3p2 yN) (lp_ranges_Times_1_3p2 yN yN 0 (List.drop_zero) (Nat.zero_le _) (by omega) (by omega)) h81) (Ai p35 (Ai p34 (Ai p29 trivial)))) (by kernel_rfl)
  |x3 =>
   try dsimp only
   have l8:=(show ∀q,(lim cfg).loop 71 lp71_3 (sd40085 0 1 2 x k)=some q→(lim cfg).loop 71 lp71_3 (sd40084 0 1 x k)=some q from fun q hq=>po_turn (st1:=(sd40085 0 1 2 x k)) [.dec true,.rw 38 (I 1)] (Ai (zadd_rw (x:=1) (by omega)) (Ai (Eq.refl true) trivial)) hq (by kernel_rfl))
   exact zl [.inl (.sl true [] 0 none) [(1,⟨[.agg [I k.lo,I k.hi]],2,false⟩)] 2,.inl (.lsl 4 0 1 2 none) [(2,⟨[.agg [I k.lo,I k.hi]],2,false⟩),(3,⟨[.agg [I (w64 ((zb (w64 (0 - x.hi)) 0) * k.lo)),I (w64 ((w64 (0 - x.lo)) * k.hi))]],2,false⟩),(4,⟨[.agg [I (w64 ((zb (w64 (0 - x.hi)) 0) * k.lo)),I (w64 ((w64 (0 - x.lo)) * k.hi))]],2,false⟩)] 5,.loop (.exit 0) (sd40086 0 1 2 x k)] (Ai (show (lim cfg).loop 71 lp71_3 (sd40084 0 1 x k)=some ((.exit 0),(sd40086 0 1 2 x k)) from (l8 _ (zr [.dec false] (Ai (Eq.refl false) trivial) (by kernel_rfl)))) (Ai (show (lim cfg).inl 72 [I (zb (w64 (0 - x.hi)) 0),I (w64 (0 - x.lo)),.agg [I k.lo,I k.hi]] [] 2=some (.lsl 4 0 1 2 none,[(2,⟨[.agg [I k.lo,I k.hi]],2,false⟩),(3,⟨[.agg [I (w64 ((zb (w64 (0 - x.hi)) 0) * k.lo)),I (w64 ((w64 (0 - x.lo)) * k.hi))]],2,false⟩),(4,⟨[.agg [I (w64 ((zb (w64 (0 - x.hi)) 0) * k.lo)),I (w64 ((w64 (0 - x.lo)) * k.hi))]],2,false⟩)],5) from zP [.loop .ret (sd40025 4 3 2 5 x k)] (Ai (zB (q:=lr_ranges_products_3p4 k (w64 (0 - x.lo)) (zb (w64 (0 - x.hi)) 0)) (lp_ranges_products_3p4 k (w64 (0 - x.lo)) (zb (w64 (0 - x.hi)) 0) 2051 (yj _ _ _)) h78) trivial) (by kernel_rfl)) (Ai p29 trivial))) (by kernel_rfl)
  |x4 =>
   try dsimp only
   exact zl [.inl (.sl true [] 0 none) [(1,⟨[.agg [I k.lo,I k.hi]],2,false⟩)] 2,.inl (.sl true [] 0 none) [(2,⟨[.agg [I k.lo,I k.hi]],2,false⟩)] 3,.loop (.exit 0) ⟨40,[(25,B false),(4,.sl true [] 0 none),(22,.sl true [] 0 none),(23,I 0),(24,I 0)],[],0,0⟩] (Ai (show (lim cfg).loop 71 lp71_3 ⟨40,[(4,.sl true [] 0 none),(22,.sl true [] 0 none),(23,I 0),(24,I 0)],[],0,0⟩=some ((.exit 0),⟨40,[(25,B false),(4,.sl true [] 0 none),(22,.sl true [] 0 none),(23,I 0),(24,I 0)],[],0,0⟩) from (zr [.dec false] (Ai (Eq.refl false) trivial) (by kernel_rfl))) (Ai (show (lim cfg).inl 72 [I (zb (w64 (0 - x.hi)) 0),I (w64 (0 - x.lo)),.agg [I k.lo,I k.hi]] [] 2=some (.sl true [] 0 none,[(2,⟨[.agg [I k.lo,I k.hi]],2,false⟩)],3) from zP [.loop (.exit 0) (sd40031 2 3 x k)] (Ai (zB (q:=lr_ranges_products_3p4 k (w64 (0 - x.lo)) (zb (w64 (0 - x.hi)) 0)) (lp_ranges_products_3p4 k (w64 (0 - x.lo)) (zb (w64 (0 - x.hi)) 0) 2051 (yj _ _ _)) h78) trivial) (by kernel_rfl)) (Ai p29 trivial))) (by kernel_rfl)
  |out =>
   exact absurd h78 ((yj _ _ _))
 |out =>
  exact absurd h13 ((ranges_products_3_ne _ _ _))
end Go.VS

