/- Nothing of a statement is proved in this text alone: it is part 5 of the proof's own tools, an evaluator of the code over deep values, its soundness, and what it makes of this seat's functions. Conditions: none beyond the statement's own. -/
import Derived.Test.YtmdmclbpnkdimaaGreatDoorVsRCQuot4
set_option linter.unusedSimpArgs false
set_option linter.unusedVariables false
namespace Go.VS
open Go Go.Proofs
set_option maxHeartbeats 0
set_option linter.unusedSimpArgs false
set_option linter.unusedVariables false
theorem quo_op {C:Cfg} {t:TypeId} {cst:Bool} {nxt:Nat} {a b:Int} (h:b ≠ 0):justO nxt (binD C t cst .quo (I a) (I b))=Option.some ⟨I (w64 (a.tdiv b)),[],[],nxt⟩:=by
 simp [binD,binVal,binInt,intOp,justO,h]

def zV (k:Sn) (least:Int):Bool :=
 bif decide (least≤k.lo) then
  bif decide (k.lo≤k.hi) then
   bif decide (k.hi≤1000) then
    true
   else
    false
  else
   false
 else
  false

theorem zn (k:Sn) (least:Int):(lim cfg).pure 68 [Sn.D k,I least]=some (B (zV k least)):=by
 unfold zV
 cases h1:decide (least≤k.lo) with
 | true =>
  have g1:=of_decide_eq_true h1
  cases h2:decide (k.lo≤k.hi) with
  | true =>
   have g2:=of_decide_eq_true h2
   cases h3:decide (k.hi≤1000) with
   | true =>
    have g3:=of_decide_eq_true h3
    exact zo [.dec true,.dec true,.dec true] (Ai h3 (Ai h2 (Ai h1 trivial))) (by kernel_rfl)
   | false =>
    have g3:=of_decide_eq_false h3
    exact zo [.dec true,.dec true,.dec false] (Ai h3 (Ai h2 (Ai h1 trivial))) (by kernel_rfl)
  | false =>
   have g2:=of_decide_eq_false h2
   exact zo [.dec true,.dec false] (Ai h2 (Ai h1 trivial)) (by kernel_rfl)
 | false =>
  have g1:=of_decide_eq_false h1
  exact zo [.dec false] (Ai h1 trivial) (by kernel_rfl)

def zf (a:Int) (b:Int):Int :=
 bif decide ((a.tmod b) < 0) then
  w64 ((w64 (a.tdiv b)) - 1)
 else
  w64 (a.tdiv b)

theorem T_ranges_down (a:Int) (b:Int) (hb:b ≠ 0):(lim cfg).pure 78 [I a,I b]=some (I (zf a b)):=by
 unfold zf
 cases h1:decide ((a.tmod b) < 0) with
 | true =>
  have g1:=of_decide_eq_true h1
  exact zo [.op (some 8) ⟨I (w64 (a.tdiv b)),[],[],0⟩,.op (some 11) ⟨I (a.tmod b),[],[],0⟩,.dec true] (Ai h1 (Ai (rem_op (C:=cfg) (t:=3) (cst:=false) (nxt:=0) (a:=a) (b:=b) (by omega)) (Ai (quo_op (C:=cfg) (t:=3) (cst:=false) (nxt:=0) (a:=a) (b:=b) (by omega)) trivial))) (by kernel_rfl)
 | false =>
  have g1:=of_decide_eq_false h1
  exact zo [.op (some 8) ⟨I (w64 (a.tdiv b)),[],[],0⟩,.op (some 11) ⟨I (a.tmod b),[],[],0⟩,.dec false] (Ai h1 (Ai (rem_op (C:=cfg) (t:=3) (cst:=false) (nxt:=0) (a:=a) (b:=b) (by omega)) (Ai (quo_op (C:=cfg) (t:=3) (cst:=false) (nxt:=0) (a:=a) (b:=b) (by omega)) trivial))) (by kernel_rfl)

def sd40000 (ν0 ν1 ν2 ν3 ν4:Nat) (μ0:List Sn) (μ1:Int) (μ2:Sn) (μ3:Sn):St:=⟨54,[(6,.lsl ν0 0 ((μ0++[(⟨w64 (μ1 * μ2.lo),w64 (μ3.hi * μ2.hi)⟩:Sn)]).length) 2 none),(37,.lsl ν0 0 ((μ0++[(⟨w64 (μ1 * μ2.lo),w64 (μ3.hi * μ2.hi)⟩:Sn)]).length) 2 none),(36,.lsl ν1 0 1 2 (some 1)),(35,.agg [I (w64 (μ1 * μ2.lo)),I (w64 (μ3.hi * μ2.hi))]),(34,I (w64 (μ3.hi * μ2.hi))),(33,I μ2.hi),(32,.lref ν2 0 2 1),(31,I μ3.hi),(30,I (w64 (μ1 * μ2.lo))),(29,I μ2.lo),(28,.lref ν2 0 2 0),(27,I μ1),(26,.lsl ν3 0 μ0.length 2 none),(25,B true),(24,I (w64 (μ2.lo - 1))),(23,I μ2.lo),(22,.lref ν2 0 2 0),(21,I (w64 (μ1 * (w64 (μ2.hi - μ2.lo))))),(20,I (w64 (μ2.hi - μ2.lo))),(19,I μ2.lo),(18,.lref ν2 0 2 0),(17,I μ2.hi),(16,.lref ν2 0 2 1),(15,I μ1),(12,B true),(11,I μ3.hi),(10,I μ1),(1,I μ3.hi),(5,.lref ν2 0 2 0),(7,.lsl ν3 0 μ0.length 2 none),(8,I μ1)],[(ν2,⟨[.agg [I μ2.lo,I μ2.hi]],2,false⟩),(ν1,⟨[.agg [I (w64 (μ1 * μ2.lo)),I (w64 (μ3.hi * μ2.hi))]],2,false⟩),(ν0,⟨(μ0++[(⟨w64 (μ1 * μ2.lo),w64 (μ3.hi * μ2.hi)⟩:Sn)]).map Sn.D,2,false⟩)],ν4,ν2⟩

def sd40001 (ν0 ν1 ν2 ν3 ν4:Nat) (μ0:List Sn) (μ1:Int) (μ2:Sn) (μ3:Sn):St:=⟨54,[(52,B true),(51,I (((μ0++[(⟨w64 (μ1 * μ2.lo),w64 (μ1 * μ2.hi)⟩:Sn)]).length:Nat):Int)),(50,.lsl ν0 0 ((μ0++[(⟨w64 (μ1 * μ2.lo),w64 (μ1 * μ2.hi)⟩:Sn)]).length) 2 none),(7,.lsl ν0 0 ((μ0++[(⟨w64 (μ1 * μ2.lo),w64 (μ1 * μ2.hi)⟩:Sn)]).length) 2 none),(49,.lsl ν0 0 ((μ0++[(⟨w64 (μ1 * μ2.lo),w64 (μ1 * μ2.hi)⟩:Sn)]).length) 2 none),(48,.lsl ν1 0 1 2 (some 1)),(47,.agg [I (w64 (μ1 * μ2.lo)),I (w64 (μ1 * μ2.hi))]),(46,I (w64 (μ1 * μ2.hi))),(45,I μ2.hi),(44,.lref ν2 0 2 1),(43,I μ1),(42,I (w64 (μ1 * μ2.lo))),(41,I μ2.lo),(40,.lref ν2 0 2 0),(39,I μ1),(38,.lsl ν3 0 μ0.length 2 none),(25,B false),(24,I (w64 (μ2.lo - 1))),(23,I μ2.lo),(22,.lref ν2 0 2 0),(21,I (w64 (μ1 * (w64 (μ2.hi - μ2.lo))))),(20,I (w64 (μ2.hi - μ2.lo))),(19,I μ2.lo),(18,.lref ν2 0 2 0),(17,I μ2.hi),(16,.lref ν2 0 2 1),(15,I μ1),(12,B true),(11,I μ3.hi),(10,I μ1),(1,I μ3.hi),(5,.lref ν2 0 2 0),(7,.lsl ν3 0 μ0.length 2 none),(8,I μ1)],[(ν2,⟨[.agg [I μ2.lo,I μ2.hi]],2,false⟩),(ν1,⟨[.agg [I (w64 (μ1 * μ2.lo)),I (w64 (μ1 * μ2.hi))]],2,false⟩),(ν0,⟨(μ0++[(⟨w64 (μ1 * μ2.lo),w64 (μ1 * μ2.hi)⟩:Sn)]).map Sn.D,2,false⟩)],ν4,ν2⟩

def sd40002 (ν0 ν1 ν2:Nat) (μ0:Sn) (μ1:Int) (μ2:List Sn) (μ3:Sn):St:=⟨54,[(12,B false),(11,I μ0.hi),(10,I μ1),(1,I μ0.hi),(5,.lref ν0 0 2 0),(7,.lsl ν1 0 μ2.length 2 none),(8,I μ1)],[(ν0,⟨[.agg [I μ3.lo,I μ3.hi]],2,false⟩),(ν1,⟨μ2.map Sn.D,2,false⟩)],ν2,ν0⟩

def sd40003 (ν0 ν1 ν2 ν3:Nat) (μ0:Int) (μ1:Sn) (μ2:Sn):St:=⟨54,[(6,.lsl ν0 0 1 2 none),(37,.lsl ν0 0 1 2 none),(36,.lsl ν1 0 1 2 (some 1)),(35,.agg [I (w64 (μ0 * μ1.lo)),I (w64 (μ2.hi * μ1.hi))]),(34,I (w64 (μ2.hi * μ1.hi))),(33,I μ1.hi),(32,.lref ν2 0 2 1),(31,I μ2.hi),(30,I (w64 (μ0 * μ1.lo))),(29,I μ1.lo),(28,.lref ν2 0 2 0),(27,I μ0),(26,.sl true [] 0 none),(25,B true),(24,I (w64 (μ1.lo - 1))),(23,I μ1.lo),(22,.lref ν2 0 2 0),(21,I (w64 (μ0 * (w64 (μ1.hi - μ1.lo))))),(20,I (w64 (μ1.hi - μ1.lo))),(19,I μ1.lo),(18,.lref ν2 0 2 0),(17,I μ1.hi),(16,.lref ν2 0 2 1),(15,I μ0),(12,B true),(11,I μ2.hi),(10,I μ0),(1,I μ2.hi),(5,.lref ν2 0 2 0),(7,.sl true [] 0 none),(8,I μ0)],[(ν2,⟨[.agg [I μ1.lo,I μ1.hi]],2,false⟩),(ν1,⟨[.agg [I (w64 (μ0 * μ1.lo)),I (w64 (μ2.hi * μ1.hi))]],2,false⟩),(ν0,⟨[.agg [I (w64 (μ0 * μ1.lo)),I (w64 (μ2.hi * μ1.hi))]],2,false⟩)],ν3,ν2⟩

def sd40004 (ν0 ν1:Nat) (μ0:Sn) (μ1:Int) (μ2:Sn):St:=⟨54,[(12,B false),(11,I μ0.hi),(10,I μ1),(1,I μ0.hi),(5,.lref ν0 0 2 0),(7,.sl true [] 0 none),(8,I μ1)],[(ν0,⟨[.agg [I μ2.lo,I μ2.hi]],2,false⟩)],ν1,ν0⟩

noncomputable def lp72_3:Code:=subC [1,1,0,1,0,0] (bodyC Tryz.f72)

def sd40005 (ν0 ν1 ν2 ν3 ν4:Nat) (μ0:Int) (μ1:List Sn) (μ2:Sn) (μ3:Sn):St:=⟨54,[(8,I (w64 (μ0+1))),(14,I (w64 (μ0+1))),(13,I μ0),(52,B false),(51,I (((μ1++[(⟨w64 (μ0 * μ2.lo),w64 (μ0 * μ2.hi)⟩:Sn)]).length:Nat):Int)),(50,.lsl ν0 0 ((μ1++[(⟨w64 (μ0 * μ2.lo),w64 (μ0 * μ2.hi)⟩:Sn)]).length) 2 none),(7,.lsl ν0 0 ((μ1++[(⟨w64 (μ0 * μ2.lo),w64 (μ0 * μ2.hi)⟩:Sn)]).length) 2 none),(49,.lsl ν0 0 ((μ1++[(⟨w64 (μ0 * μ2.lo),w64 (μ0 * μ2.hi)⟩:Sn)]).length) 2 none),(48,.lsl ν1 0 1 2 (some 1)),(47,.agg [I (w64 (μ0 * μ2.lo)),I (w64 (μ0 * μ2.hi))]),(46,I (w64 (μ0 * μ2.hi))),(45,I μ2.hi),(44,.lref ν2 0 2 1),(43,I μ0),(42,I (w64 (μ0 * μ2.lo))),(41,I μ2.lo),(40,.lref ν2 0 2 0),(39,I μ0),(38,.lsl ν3 0 μ1.length 2 none),(25,B false),(24,I (w64 (μ2.lo - 1))),(23,I μ2.lo),(22,.lref ν2 0 2 0),(21,I (w64 (μ0 * (w64 (μ2.hi - μ2.lo))))),(20,I (w64 (μ2.hi - μ2.lo))),(19,I μ2.lo),(18,.lref ν2 0 2 0),(17,I μ2.hi),(16,.lref ν2 0 2 1),(15,I μ0),(12,B true),(11,I μ3.hi),(10,I μ0),(1,I μ3.hi),(5,.lref ν2 0 2 0),(7,.lsl ν3 0 μ1.length 2 none),(8,I μ0)],[(ν2,⟨[.agg [I μ2.lo,I μ2.hi]],2,false⟩),(ν1,⟨[.agg [I (w64 (μ0 * μ2.lo)),I (w64 (μ0 * μ2.hi))]],2,false⟩),(ν0,⟨(μ1++[(⟨w64 (μ0 * μ2.lo),w64 (μ0 * μ2.hi)⟩:Sn)]).map Sn.D,2,false⟩)],ν4,ν2⟩

inductive LR_ranges_products_3 where
 | x0 (yP:List Sn) (yS:Int)
 | x1 (yP:List Sn) (yS:Int)
 | x2 (yP:List Sn) (yS:Int)
 | x3
 | x4
 | out
instance:Inhabited LR_ranges_products_3:=⟨.out⟩
def yD (x:Sn) (k:Sn) (xS:Int):Nat→(List Sn)→Int→LR_ranges_products_3
 | 0,_,_=>.out
 | xA+1,yP,yS =>
  bif decide (yS≤x.hi) then
   bif decide ((w64 (yS * (w64 (k.hi - k.lo)))) ≥ (w64 (k.lo - 1))) then
    .x0 yP yS
   else
    bif decide ((((yP++[(⟨w64 (yS * k.lo),w64 (yS * k.hi)⟩:Sn)]).length:Nat):Int) > 2048) then
     .x1 yP yS
    else
     yD x k xS xA (yP++[(⟨w64 (yS * k.lo),w64 (yS * k.hi)⟩:Sn)]) (w64 (yS+1))
  else
   .x2 yP yS
def yz (x:Sn) (k:Sn) (xS:Int):Nat→LR_ranges_products_3
 | 0=>.out
 | xA+1 =>
  bif decide (xS≤x.hi) then
   bif decide ((w64 (xS * (w64 (k.hi - k.lo)))) ≥ (w64 (k.lo - 1))) then
    .x3
   else
    yD x k xS xA [(⟨w64 (xS * k.lo),w64 (xS * k.hi)⟩:Sn)] (w64 (xS+1))
  else
   .x4
def lr_ranges_products_3 (x:Sn) (k:Sn) (xS:Int):LR_ranges_products_3→Exit × St
 | .x0 yP yS=>(.ret,(sd40000 4 3 1 2 5 yP yS k x))
 | .x1 yP yS=>((.exit 0),(sd40001 4 3 1 2 5 yP yS k x))
 | .x2 yP yS=>((.exit 0),(sd40002 1 2 3 x yS yP k))
 | .x3=>(.ret,(sd40003 3 2 1 4 xS k x))
 | .x4=>((.exit 0),(sd40004 1 2 x xS k))
 | .out=>(.normal,⟨0,[],[],0,0⟩)
def iv_ranges_products_3 (x:Sn) (k:Sn) (xS:Int):LR_ranges_products_3→Prop
 | .x0 yP yS=>(yP.length≤2048)
 | .x1 yP yS=>(yP.length≤2048)
 | .x2 yP yS=>(yP.length≤2048)
 | .x3=>True
 | .x4=>True
 | .out=>True
def ranges_products_3a_f_o1 (k:Sn) (yP:List Sn) (yS:Int):List Ora:=[.dec true,.dec false,.op (some 49) ⟨.lsl 4 0 ((yP++[(⟨w64 (yS * k.lo),w64 (yS * k.hi)⟩:Sn)]).length) 2 none,[(2,none),(4,some ⟨(yP++[(⟨w64 (yS * k.lo),w64 (yS * k.hi)⟩:Sn)]).map Sn.D,2,false⟩)],[2,3],5⟩]
theorem lp_ranges_products_3a (x:Sn) (k:Sn) (xS:Int):∀ (xA:Nat) (yP:List Sn) (yS:Int) (hf3:yD x k xS xA yP yS ≠ .out) (hw1:yP.length≤2048),(lim cfg).loop 72 lp72_3 ⟨54,[(1,I x.hi),(5,.lref 1 0 2 0),(7,.lsl 2 0 yP.length 2 none),(8,I yS)],[(1,⟨[.agg [I k.lo,I k.hi]],2,false⟩),(2,⟨yP.map Sn.D,2,false⟩)],3,1⟩=some (lr_ranges_products_3 x k xS (yD x k xS xA yP yS)):=by
 intro xA
 induction xA with
 | zero =>
  intro yP yS hf3 hw1
  exact absurd rfl hf3
 | succ xA ih =>
  intro yP yS hf3 hw1
  unfold yD at hf3 ⊢
  revert hf3
  cases h8:decide (yS≤x.hi) with
  | true =>
   have g8:=of_decide_eq_true h8
   cases h9:decide ((w64 (yS * (w64 (k.hi - k.lo)))) ≥ (w64 (k.lo - 1))) with
   | true =>
    have g9:=of_decide_eq_true h9
    intro hf3
    exact zy [.dec true,.dec true,.op (some 37) ⟨.lsl 4 0 ((yP++[(⟨w64 (yS * k.lo),w64 (x.hi * k.hi)⟩:Sn)]).length) 2 none,[(2,none),(4,some ⟨(yP++[(⟨w64 (yS * k.lo),w64 (x.hi * k.hi)⟩:Sn)]).map Sn.D,2,false⟩)],[2,3],5⟩] (Ai (app_row (f:=Sn.D) (te:=zS) (gO:=zt [(1,⟨[.agg [I k.lo,I k.hi]],2,false⟩),(2,⟨yP.map Sn.D,2,false⟩),(3,⟨[.agg [I (w64 (yS * k.lo)),I (w64 (x.hi * k.hi))]],2,false⟩)]) (nxt:=4) (o:=2) (o2:=3) (fz:=false) z7 yP (⟨w64 (yS * k.lo),w64 (x.hi * k.hi)⟩:Sn) (by kernel_rfl) (by kernel_rfl) rfl (by kernel_rfl) (by decide) ⟨by simp only [zS,big] <;> (omega),by simp only [big] <;> (omega)⟩) (Ai h9 (Ai h8 trivial))) (by kernel_rfl)
   | false =>
    have g9:=of_decide_eq_false h9
    have p1:=(app_row (f:=Sn.D) (te:=zS) (gO:=zt [(1,⟨[.agg [I k.lo,I k.hi]],2,false⟩),(2,⟨yP.map Sn.D,2,false⟩),(3,⟨[.agg [I (w64 (yS * k.lo)),I (w64 (yS * k.hi))]],2,false⟩)]) (nxt:=4) (o:=2) (o2:=3) (fz:=false) z7 yP (⟨w64 (yS * k.lo),w64 (yS * k.hi)⟩:Sn) (by kernel_rfl) (by kernel_rfl) rfl (by kernel_rfl) (by decide) ⟨by simp only [zS,big] <;> (omega),by simp only [big] <;> (omega)⟩)
    cases h10:decide ((((yP++[(⟨w64 (yS * k.lo),w64 (yS * k.hi)⟩:Sn)]).length:Nat):Int) > 2048) with
    | true =>
     have g10:=of_decide_eq_true h10
     intro hf3
     exact zy ((ranges_products_3a_f_o1 k yP yS)++[.dec true]) (Ai h10 (Ai p1 (Ai h9 (Ai h8 trivial)))) (by kernel_rfl)
    | false =>
     have g10:=of_decide_eq_false h10
     intro hf3
     exact zN (ks:=[1,5,7,8]) (st':=(sd40005 4 3 1 2 5 yS yP k x)) ((ranges_products_3a_f_o1 k yP yS)++[.dec false]) (Ai h10 (Ai p1 (Ai h9 (Ai h8 trivial)))) (by kernel_rfl) (by (simp only [sd40005,go_sem,List.length_set,Nat.reduceAdd,Nat.reduceEqDiff,Nat.reduceLT,Nat.reduceLeDiff,bI2,zc.idsL,zc.renL,zc.snapAll,z7.idsL,z7.renL,z7.snapAll]) <;> rfl) (ih (yP++[(⟨w64 (yS * k.lo),w64 (yS * k.hi)⟩:Sn)]) (w64 (yS+1)) hf3 (by omega)) (by kernel_rfl)
  | false =>
   have g8:=of_decide_eq_false h8
   intro hf3
   exact zy [.dec false] (Ai h8 trivial) (by kernel_rfl)
theorem ivt_ranges_products_3a (x:Sn) (k:Sn) (xS:Int):∀ (xA:Nat) (yP:List Sn) (yS:Int) (hf3:yD x k xS xA yP yS ≠ .out) (hw1:yP.length≤2048),iv_ranges_products_3 x k xS (yD x k xS xA yP yS):=by
 intro xA
 induction xA with
 | zero =>
  intro yP yS hf3 hw1
  exact absurd rfl hf3
 | succ xA ih =>
  intro yP yS hf3 hw1
  unfold yD at hf3 ⊢
  revert hf3
  cases h8:decide (yS≤x.hi) with
  | true =>
   have g8:=of_decide_eq_true h8
   cases h9:decide ((w64 (yS * (w64 (k.hi - k.lo)))) ≥ (w64 (k.lo - 1))) with
   | true =>
    have g9:=of_decide_eq_true h9
    intro hf3
    exact hw1
   | false =>
    have g9:=of_decide_eq_false h9
    cases h10:decide ((((yP++[(⟨w64 (yS * k.lo),w64 (yS * k.hi)⟩:Sn)]).length:Nat):Int) > 2048) with
    | true =>
     have g10:=of_decide_eq_true h10
     intro hf3
     exact hw1
    | false =>
     have g10:=of_decide_eq_false h10
     intro hf3
     exact ih (yP++[(⟨w64 (yS * k.lo),w64 (yS * k.hi)⟩:Sn)]) (w64 (yS+1)) hf3 (by omega)
  | false =>
   have g8:=of_decide_eq_false h8
   intro hf3
   exact hw1
theorem lp_ranges_products_3 (x:Sn) (k:Sn) (xS:Int):∀ (xA:Nat) (hf3:yz x k xS xA ≠ .out),(lim cfg).loop 72 lp72_3 ⟨54,[(1,I x.hi),(5,.lref 1 0 2 0),(7,.sl true [] 0 none),(8,I xS)],[(1,⟨[.agg [I k.lo,I k.hi]],2,false⟩)],2,1⟩=some (lr_ranges_products_3 x k xS (yz x k xS xA)):=by
 intro xA
 induction xA with
 | zero =>
  intro hf3
  exact absurd rfl hf3
 | succ xA ih =>
  intro hf3
  unfold yz at hf3 ⊢
  revert hf3
  cases h11:decide (xS≤x.hi) with
  | true =>
   have g11:=of_decide_eq_true h11
   cases h12:decide ((w64 (xS * (w64 (k.hi - k.lo)))) ≥ (w64 (k.lo - 1))) with
   | true =>
    have g12:=of_decide_eq_true h12
    intro hf3
    exact zy [.dec true,.dec true] (Ai h12 (Ai h11 trivial)) (by kernel_rfl)
   | false =>
    have g12:=of_decide_eq_false h12
    intro hf3
    exact po_turn [.dec true,.dec false,.dec false] (Ai (Eq.refl false) (Ai h12 (Ai h11 trivial))) (lp_ranges_products_3a x k xS _ [(⟨w64 (xS * k.lo),w64 (xS * k.hi)⟩:Sn)] (w64 (xS+1)) hf3 (by simp only [List.length_append,List.length_cons,List.length_nil] at * <;> omega)) (by kernel_rfl)
  | false =>
   have g11:=of_decide_eq_false h11
   intro hf3
   exact zy [.dec false] (Ai h11 trivial) (by kernel_rfl)
theorem ivt_ranges_products_3 (x:Sn) (k:Sn) (xS:Int):∀ (xA:Nat) (hf3:yz x k xS xA ≠ .out),iv_ranges_products_3 x k xS (yz x k xS xA):=by
 intro xA
 induction xA with
 | zero =>
  intro hf3
  exact absurd rfl hf3
 | succ xA ih =>
  intro hf3
  unfold yz at hf3 ⊢
  revert hf3
  cases h11:decide (xS≤x.hi) with
  | true =>
   have g11:=of_decide_eq_true h11
   cases h12:decide ((w64 (xS * (w64 (k.hi - k.lo)))) ≥ (w64 (k.lo - 1))) with
   | true =>
    have g12:=of_decide_eq_true h12
    intro hf3
    exact trivial
   | false =>
    have g12:=of_decide_eq_false h12
    intro hf3
    exact ivt_ranges_products_3a x k xS _ [(⟨w64 (xS * k.lo),w64 (xS * k.hi)⟩:Sn)] (w64 (xS+1)) hf3 (by simp only [List.length_append,List.length_cons,List.length_nil] at * <;> omega)
  | false =>
   have g11:=of_decide_eq_false h11
   intro hf3
   exact trivial

theorem ranges_products_3_ne' (x:Sn) (k:Sn) (xS:Int):∀ (n:Nat) (v:List Sn) (i:Int),2050≤v.length+n→v.length≤2048→yD x k xS n v i ≠ .out
 | 0,v,i,h1,h2=>by omega
 | n+1,v,i,h1,h2=>by
  unfold yD
  simp only [Bool.cond_eq_ite]
  repeat' split
  all_goals simp only [decide_eq_true_eq] at *
  all_goals first | (intro h; cases h; done) | exact ranges_products_3_ne' x k xS n _ _ (by simp only [List.length_append,List.length_cons,List.length_nil] at *; omega) (by simp only [List.length_append,List.length_cons,List.length_nil] at *; omega)
theorem ranges_products_3_ne (x:Sn) (k:Sn) (xS:Int):yz x k xS 2051 ≠ .out:=by
 unfold yz
 simp only [Bool.cond_eq_ite]
 repeat' split
 all_goals first | (intro h; cases h; done) | exact ranges_products_3_ne' x k xS 2050 _ _ (by simp) (by simp)

def sd40006 (ν0 ν1 ν2 ν3 ν4:Nat) (μ0:List Sn) (μ1:Int) (μ2:Sn) (μ3:Int):St:=⟨54,[(6,.lsl ν0 0 ((μ0++[(⟨w64 (μ1 * μ2.lo),w64 (μ3 * μ2.hi)⟩:Sn)]).length) 2 none),(37,.lsl ν0 0 ((μ0++[(⟨w64 (μ1 * μ2.lo),w64 (μ3 * μ2.hi)⟩:Sn)]).length) 2 none),(36,.lsl ν1 0 1 2 (some 1)),(35,.agg [I (w64 (μ1 * μ2.lo)),I (w64 (μ3 * μ2.hi))]),(34,I (w64 (μ3 * μ2.hi))),(33,I μ2.hi),(32,.lref ν2 0 2 1),(31,I μ3),(30,I (w64 (μ1 * μ2.lo))),(29,I μ2.lo),(28,.lref ν2 0 2 0),(27,I μ1),(26,.lsl ν3 0 μ0.length 2 none),(25,B true),(24,I (w64 (μ2.lo - 1))),(23,I μ2.lo),(22,.lref ν2 0 2 0),(21,I (w64 (μ1 * (w64 (μ2.hi - μ2.lo))))),(20,I (w64 (μ2.hi - μ2.lo))),(19,I μ2.lo),(18,.lref ν2 0 2 0),(17,I μ2.hi),(16,.lref ν2 0 2 1),(15,I μ1),(12,B true),(11,I μ3),(10,I μ1),(1,I μ3),(5,.lref ν2 0 2 0),(7,.lsl ν3 0 μ0.length 2 none),(8,I μ1)],[(ν2,⟨[.agg [I μ2.lo,I μ2.hi]],2,false⟩),(ν1,⟨[.agg [I (w64 (μ1 * μ2.lo)),I (w64 (μ3 * μ2.hi))]],2,false⟩),(ν0,⟨(μ0++[(⟨w64 (μ1 * μ2.lo),w64 (μ3 * μ2.hi)⟩:Sn)]).map Sn.D,2,false⟩)],ν4,ν2⟩

def sd40007 (ν0 ν1 ν2 ν3 ν4:Nat) (μ0:List Sn) (μ1:Int) (μ2:Sn) (μ3:Int):St:=⟨54,[(52,B true),(51,I (((μ0++[(⟨w64 (μ1 * μ2.lo),w64 (μ1 * μ2.hi)⟩:Sn)]).length:Nat):Int)),(50,.lsl ν0 0 ((μ0++[(⟨w64 (μ1 * μ2.lo),w64 (μ1 * μ2.hi)⟩:Sn)]).length) 2 none),(7,.lsl ν0 0 ((μ0++[(⟨w64 (μ1 * μ2.lo),w64 (μ1 * μ2.hi)⟩:Sn)]).length) 2 none),(49,.lsl ν0 0 ((μ0++[(⟨w64 (μ1 * μ2.lo),w64 (μ1 * μ2.hi)⟩:Sn)]).length) 2 none),(48,.lsl ν1 0 1 2 (some 1)),(47,.agg [I (w64 (μ1 * μ2.lo)),I (w64 (μ1 * μ2.hi))]),(46,I (w64 (μ1 * μ2.hi))),(45,I μ2.hi),(44,.lref ν2 0 2 1),(43,I μ1),(42,I (w64 (μ1 * μ2.lo))),(41,I μ2.lo),(40,.lref ν2 0 2 0),(39,I μ1),(38,.lsl ν3 0 μ0.length 2 none),(25,B false),(24,I (w64 (μ2.lo - 1))),(23,I μ2.lo),(22,.lref ν2 0 2 0),(21,I (w64 (μ1 * (w64 (μ2.hi - μ2.lo))))),(20,I (w64 (μ2.hi - μ2.lo))),(19,I μ2.lo),(18,.lref ν2 0 2 0),(17,I μ2.hi),(16,.lref ν2 0 2 1),(15,I μ1),(12,B true),(11,I μ3),(10,I μ1),(1,I μ3),(5,.lref ν2 0 2 0),(7,.lsl ν3 0 μ0.length 2 none),(8,I μ1)],[(ν2,⟨[.agg [I μ2.lo,I μ2.hi]],2,false⟩),(ν1,⟨[.agg [I (w64 (μ1 * μ2.lo)),I (w64 (μ1 * μ2.hi))]],2,false⟩),(ν0,⟨(μ0++[(⟨w64 (μ1 * μ2.lo),w64 (μ1 * μ2.hi)⟩:Sn)]).map Sn.D,2,false⟩)],ν4,ν2⟩

def sd40008 (ν0 ν1 ν2:Nat) (μ0:Int) (μ1:Int) (μ2:List Sn) (μ3:Sn):St:=⟨54,[(12,B false),(11,I μ0),(10,I μ1),(1,I μ0),(5,.lref ν0 0 2 0),(7,.lsl ν1 0 μ2.length 2 none),(8,I μ1)],[(ν0,⟨[.agg [I μ3.lo,I μ3.hi]],2,false⟩),(ν1,⟨μ2.map Sn.D,2,false⟩)],ν2,ν0⟩

def sd40009 (ν0 ν1 ν2 ν3:Nat) (μ0:Int) (μ1:Sn) (μ2:Int):St:=⟨54,[(6,.lsl ν0 0 1 2 none),(37,.lsl ν0 0 1 2 none),(36,.lsl ν1 0 1 2 (some 1)),(35,.agg [I (w64 (μ0 * μ1.lo)),I (w64 (μ2 * μ1.hi))]),(34,I (w64 (μ2 * μ1.hi))),(33,I μ1.hi),(32,.lref ν2 0 2 1),(31,I μ2),(30,I (w64 (μ0 * μ1.lo))),(29,I μ1.lo),(28,.lref ν2 0 2 0),(27,I μ0),(26,.sl true [] 0 none),(25,B true),(24,I (w64 (μ1.lo - 1))),(23,I μ1.lo),(22,.lref ν2 0 2 0),(21,I (w64 (μ0 * (w64 (μ1.hi - μ1.lo))))),(20,I (w64 (μ1.hi - μ1.lo))),(19,I μ1.lo),(18,.lref ν2 0 2 0),(17,I μ1.hi),(16,.lref ν2 0 2 1),(15,I μ0),(12,B true),(11,I μ2),(10,I μ0),(1,I μ2),(5,.lref ν2 0 2 0),(7,.sl true [] 0 none),(8,I μ0)],[(ν2,⟨[.agg [I μ1.lo,I μ1.hi]],2,false⟩),(ν1,⟨[.agg [I (w64 (μ0 * μ1.lo)),I (w64 (μ2 * μ1.hi))]],2,false⟩),(ν0,⟨[.agg [I (w64 (μ0 * μ1.lo)),I (w64 (μ2 * μ1.hi))]],2,false⟩)],ν3,ν2⟩

def sd40010 (ν0 ν1:Nat) (μ0:Int) (μ1:Int) (μ2:Sn):St:=⟨54,[(12,B false),(11,I μ0),(10,I μ1),(1,I μ0),(5,.lref ν0 0 2 0),(7,.sl true [] 0 none),(8,I μ1)],[(ν0,⟨[.agg [I μ2.lo,I μ2.hi]],2,false⟩)],ν1,ν0⟩

def sd40011 (ν0 ν1 ν2 ν3 ν4:Nat) (μ0:Int) (μ1:List Sn) (μ2:Sn) (μ3:Int):St:=⟨54,[(8,I (w64 (μ0+1))),(14,I (w64 (μ0+1))),(13,I μ0),(52,B false),(51,I (((μ1++[(⟨w64 (μ0 * μ2.lo),w64 (μ0 * μ2.hi)⟩:Sn)]).length:Nat):Int)),(50,.lsl ν0 0 ((μ1++[(⟨w64 (μ0 * μ2.lo),w64 (μ0 * μ2.hi)⟩:Sn)]).length) 2 none),(7,.lsl ν0 0 ((μ1++[(⟨w64 (μ0 * μ2.lo),w64 (μ0 * μ2.hi)⟩:Sn)]).length) 2 none),(49,.lsl ν0 0 ((μ1++[(⟨w64 (μ0 * μ2.lo),w64 (μ0 * μ2.hi)⟩:Sn)]).length) 2 none),(48,.lsl ν1 0 1 2 (some 1)),(47,.agg [I (w64 (μ0 * μ2.lo)),I (w64 (μ0 * μ2.hi))]),(46,I (w64 (μ0 * μ2.hi))),(45,I μ2.hi),(44,.lref ν2 0 2 1),(43,I μ0),(42,I (w64 (μ0 * μ2.lo))),(41,I μ2.lo),(40,.lref ν2 0 2 0),(39,I μ0),(38,.lsl ν3 0 μ1.length 2 none),(25,B false),(24,I (w64 (μ2.lo - 1))),(23,I μ2.lo),(22,.lref ν2 0 2 0),(21,I (w64 (μ0 * (w64 (μ2.hi - μ2.lo))))),(20,I (w64 (μ2.hi - μ2.lo))),(19,I μ2.lo),(18,.lref ν2 0 2 0),(17,I μ2.hi),(16,.lref ν2 0 2 1),(15,I μ0),(12,B true),(11,I μ3),(10,I μ0),(1,I μ3),(5,.lref ν2 0 2 0),(7,.lsl ν3 0 μ1.length 2 none),(8,I μ0)],[(ν2,⟨[.agg [I μ2.lo,I μ2.hi]],2,false⟩),(ν1,⟨[.agg [I (w64 (μ0 * μ2.lo)),I (w64 (μ0 * μ2.hi))]],2,false⟩),(ν0,⟨(μ1++[(⟨w64 (μ0 * μ2.lo),w64 (μ0 * μ2.hi)⟩:Sn)]).map Sn.D,2,false⟩)],ν4,ν2⟩

inductive LR_ranges_products_3p1 where
 | x0 (yO:List Sn) (yN:Int)
 | x1 (yO:List Sn) (yN:Int)
 | x2 (yO:List Sn) (yN:Int)
 | x3
 | x4
 | out
instance:Inhabited LR_ranges_products_3p1:=⟨.out⟩
def yh (k:Sn) (xf:Int) (xk:Int):Nat→(List Sn)→Int→LR_ranges_products_3p1
 | 0,_,_=>.out
 | xh+1,yO,yN =>
  bif decide (yN≤xf) then
   bif decide ((w64 (yN * (w64 (k.hi - k.lo)))) ≥ (w64 (k.lo - 1))) then
    .x0 yO yN
   else
    bif decide ((((yO++[(⟨w64 (yN * k.lo),w64 (yN * k.hi)⟩:Sn)]).length:Nat):Int) > 2048) then
     .x1 yO yN
    else
     yh k xf xk xh (yO++[(⟨w64 (yN * k.lo),w64 (yN * k.hi)⟩:Sn)]) (w64 (yN+1))
  else
   .x2 yO yN
def zR (k:Sn) (xf:Int) (xk:Int):Nat→LR_ranges_products_3p1
 | 0=>.out
 | xh+1 =>
  bif decide (xk≤xf) then
   bif decide ((w64 (xk * (w64 (k.hi - k.lo)))) ≥ (w64 (k.lo - 1))) then
    .x3
   else
    yh k xf xk xh [(⟨w64 (xk * k.lo),w64 (xk * k.hi)⟩:Sn)] (w64 (xk+1))
  else
   .x4
def y7 (k:Sn) (xf:Int) (xk:Int):LR_ranges_products_3p1→Exit × St
 | .x0 yO yN=>(.ret,(sd40006 8 7 5 6 9 yO yN k xf))
 | .x1 yO yN=>((.exit 0),(sd40007 8 7 5 6 9 yO yN k xf))
 | .x2 yO yN=>((.exit 0),(sd40008 5 6 7 xf yN yO k))
 | .x3=>(.ret,(sd40009 7 6 5 8 xk k xf))
 | .x4=>((.exit 0),(sd40010 5 6 xf xk k))
 | .out=>(.normal,⟨0,[],[],0,0⟩)
def iv_ranges_products_3p1 (k:Sn) (xf:Int) (xk:Int):LR_ranges_products_3p1→Prop
 | .x0 yO yN=>(yO.length≤2048)
 | .x1 yO yN=>(yO.length≤2048)
 | .x2 yO yN=>(yO.length≤2048)
 | .x3=>True
 | .x4=>True
 | .out=>True
def ranges_products_3p1a_f_o1 (k:Sn) (yO:List Sn) (yN:Int):List Ora:=[.dec true,.dec false,.op (some 49) ⟨.lsl 8 0 ((yO++[(⟨w64 (yN * k.lo),w64 (yN * k.hi)⟩:Sn)]).length) 2 none,[(6,none),(8,some ⟨(yO++[(⟨w64 (yN * k.lo),w64 (yN * k.hi)⟩:Sn)]).map Sn.D,2,false⟩)],[6,7],9⟩]
theorem lp_ranges_products_3p1a (k:Sn) (xf:Int) (xk:Int):∀ (xh:Nat) (yO:List Sn) (yN:Int) (xM:yh k xf xk xh yO yN ≠ .out) (hw1:yO.length≤2048),(lim cfg).loop 72 lp72_3 ⟨54,[(1,I xf),(5,.lref 5 0 2 0),(7,.lsl 6 0 yO.length 2 none),(8,I yN)],[(5,⟨[.agg [I k.lo,I k.hi]],2,false⟩),(6,⟨yO.map Sn.D,2,false⟩)],7,5⟩=some (y7 k xf xk (yh k xf xk xh yO yN)):=by
 intro xh
 induction xh with
 | zero =>
  intro yO yN xM hw1
  exact absurd rfl xM
 | succ xh ih =>
  intro yO yN xM hw1
  unfold yh at xM ⊢
  revert xM
  cases h21:decide (yN≤xf) with
  | true =>
   have g21:=of_decide_eq_true h21
   cases h22:decide ((w64 (yN * (w64 (k.hi - k.lo)))) ≥ (w64 (k.lo - 1))) with
   | true =>
    have g22:=of_decide_eq_true h22
    intro xM
    exact zy [.dec true,.dec true,.op (some 37) ⟨.lsl 8 0 ((yO++[(⟨w64 (yN * k.lo),w64 (xf * k.hi)⟩:Sn)]).length) 2 none,[(6,none),(8,some ⟨(yO++[(⟨w64 (yN * k.lo),w64 (xf * k.hi)⟩:Sn)]).map Sn.D,2,false⟩)],[6,7],9⟩] (Ai (app_row (f:=Sn.D) (te:=zS) (gO:=zt [(5,⟨[.agg [I k.lo,I k.hi]],2,false⟩),(6,⟨yO.map Sn.D,2,false⟩),(7,⟨[.agg [I (w64 (yN * k.lo)),I (w64 (xf * k.hi))]],2,false⟩)]) (nxt:=8) (o:=6) (o2:=7) (fz:=false) z7 yO (⟨w64 (yN * k.lo),w64 (xf * k.hi)⟩:Sn) (by kernel_rfl) (by kernel_rfl) rfl (by kernel_rfl) (by decide) ⟨by simp only [zS,big] <;> (omega),by simp only [big] <;> (omega)⟩) (Ai h22 (Ai h21 trivial))) (by kernel_rfl)
   | false =>
    have g22:=of_decide_eq_false h22
    have p1:=(app_row (f:=Sn.D) (te:=zS) (gO:=zt [(5,⟨[.agg [I k.lo,I k.hi]],2,false⟩),(6,⟨yO.map Sn.D,2,false⟩),(7,⟨[.agg [I (w64 (yN * k.lo)),I (w64 (yN * k.hi))]],2,false⟩)]) (nxt:=8) (o:=6) (o2:=7) (fz:=false) z7 yO (⟨w64 (yN * k.lo),w64 (yN * k.hi)⟩:Sn) (by kernel_rfl) (by kernel_rfl) rfl (by kernel_rfl) (by decide) ⟨by simp only [zS,big] <;> (omega),by simp only [big] <;> (omega)⟩)
    cases h23:decide ((((yO++[(⟨w64 (yN * k.lo),w64 (yN * k.hi)⟩:Sn)]).length:Nat):Int) > 2048) with
    | true =>
     have g23:=of_decide_eq_true h23
     intro xM
     exact zy ((ranges_products_3p1a_f_o1 k yO yN)++[.dec true]) (Ai h23 (Ai p1 (Ai h22 (Ai h21 trivial)))) (by kernel_rfl)
    | false =>
     have g23:=of_decide_eq_false h23
     intro xM
     exact zN (ks:=[1,5,7,8]) (st':=(sd40011 8 7 5 6 9 yN yO k xf)) ((ranges_products_3p1a_f_o1 k yO yN)++[.dec false]) (Ai h23 (Ai p1 (Ai h22 (Ai h21 trivial)))) (by kernel_rfl) (by (simp only [sd40011,go_sem,List.length_set,Nat.reduceAdd,Nat.reduceEqDiff,Nat.reduceLT,Nat.reduceLeDiff,bI2,zc.idsL,zc.renL,zc.snapAll,z7.idsL,z7.renL,z7.snapAll]) <;> rfl) (ih (yO++[(⟨w64 (yN * k.lo),w64 (yN * k.hi)⟩:Sn)]) (w64 (yN+1)) xM (by omega)) (by kernel_rfl)
  | false =>
   have g21:=of_decide_eq_false h21
   intro xM
   exact zy [.dec false] (Ai h21 trivial) (by kernel_rfl)
theorem ivt_ranges_products_3p1a (k:Sn) (xf:Int) (xk:Int):∀ (xh:Nat) (yO:List Sn) (yN:Int) (xM:yh k xf xk xh yO yN ≠ .out) (hw1:yO.length≤2048),iv_ranges_products_3p1 k xf xk (yh k xf xk xh yO yN):=by
 intro xh
 induction xh with
 | zero =>
  intro yO yN xM hw1
  exact absurd rfl xM
 | succ xh ih =>
  intro yO yN xM hw1
  unfold yh at xM ⊢
  revert xM
  cases h21:decide (yN≤xf) with
  | true =>
   have g21:=of_decide_eq_true h21
   cases h22:decide ((w64 (yN * (w64 (k.hi - k.lo)))) ≥ (w64 (k.lo - 1))) with
   | true =>
    have g22:=of_decide_eq_true h22
    intro xM
    exact hw1
   | false =>
    have g22:=of_decide_eq_false h22
    cases h23:decide ((((yO++[(⟨w64 (yN * k.lo),w64 (yN * k.hi)⟩:Sn)]).length:Nat):Int) > 2048) with
    | true =>
     have g23:=of_decide_eq_true h23
     intro xM
     exact hw1
    | false =>
     have g23:=of_decide_eq_false h23
     intro xM
     exact ih (yO++[(⟨w64 (yN * k.lo),w64 (yN * k.hi)⟩:Sn)]) (w64 (yN+1)) xM (by omega)
  | false =>
   have g21:=of_decide_eq_false h21
   intro xM
   exact hw1
theorem lp_ranges_products_3p1 (k:Sn) (xf:Int) (xk:Int):∀ (xh:Nat) (xM:zR k xf xk xh ≠ .out),(lim cfg).loop 72 lp72_3 ⟨54,[(1,I xf),(5,.lref 5 0 2 0),(7,.sl true [] 0 none),(8,I xk)],[(5,⟨[.agg [I k.lo,I k.hi]],2,false⟩)],6,5⟩=some (y7 k xf xk (zR k xf xk xh)):=by
 intro xh
 induction xh with
 | zero =>
  intro xM
  exact absurd rfl xM
 | succ xh ih =>
  intro xM
  unfold zR at xM ⊢
  revert xM
  cases h24:decide (xk≤xf) with
  | true =>
   have g24:=of_decide_eq_true h24
   cases h25:decide ((w64 (xk * (w64 (k.hi - k.lo)))) ≥ (w64 (k.lo - 1))) with
   | true =>
    have g25:=of_decide_eq_true h25
    intro xM
    exact zy [.dec true,.dec true] (Ai h25 (Ai h24 trivial)) (by kernel_rfl)
   | false =>
    have g25:=of_decide_eq_false h25
    intro xM
    exact po_turn [.dec true,.dec false,.dec false] (Ai (Eq.refl false) (Ai h25 (Ai h24 trivial))) (lp_ranges_products_3p1a k xf xk _ [(⟨w64 (xk * k.lo),w64 (xk * k.hi)⟩:Sn)] (w64 (xk+1)) xM (by simp only [List.length_append,List.length_cons,List.length_nil] at * <;> omega)) (by kernel_rfl)
  | false =>
   have g24:=of_decide_eq_false h24
   intro xM
   exact zy [.dec false] (Ai h24 trivial) (by kernel_rfl)
theorem ivt_ranges_products_3p1 (k:Sn) (xf:Int) (xk:Int):∀ (xh:Nat) (xM:zR k xf xk xh ≠ .out),iv_ranges_products_3p1 k xf xk (zR k xf xk xh):=by
 intro xh
 induction xh with
 | zero =>
  intro xM
  exact absurd rfl xM
 | succ xh ih =>
  intro xM
  unfold zR at xM ⊢
  revert xM
  cases h24:decide (xk≤xf) with
  | true =>
   have g24:=of_decide_eq_true h24
   cases h25:decide ((w64 (xk * (w64 (k.hi - k.lo)))) ≥ (w64 (k.lo - 1))) with
   | true =>
    have g25:=of_decide_eq_true h25
    intro xM
    exact trivial
   | false =>
    have g25:=of_decide_eq_false h25
    intro xM
    exact ivt_ranges_products_3p1a k xf xk _ [(⟨w64 (xk * k.lo),w64 (xk * k.hi)⟩:Sn)] (w64 (xk+1)) xM (by simp only [List.length_append,List.length_cons,List.length_nil] at * <;> omega)
  | false =>
   have g24:=of_decide_eq_false h24
   intro xM
   exact trivial

theorem ranges_products_3p1_ne' (k:Sn) (xf:Int) (xk:Int):∀ (n:Nat) (v:List Sn) (i:Int),2050≤v.length+n→v.length≤2048→yh k xf xk n v i ≠ .out
 | 0,v,i,h1,h2=>by omega
 | n+1,v,i,h1,h2=>by
  unfold yh
  simp only [Bool.cond_eq_ite]
  repeat' split
  all_goals simp only [decide_eq_true_eq] at *
  all_goals first | (intro h; cases h; done) | exact ranges_products_3p1_ne' k xf xk n _ _ (by simp only [List.length_append,List.length_cons,List.length_nil] at *; omega) (by simp only [List.length_append,List.length_cons,List.length_nil] at *; omega)
theorem zC (k:Sn) (xf:Int) (xk:Int):zR k xf xk 2051 ≠ .out:=by
 unfold zR
 simp only [Bool.cond_eq_ite]
 repeat' split
 all_goals first | (intro h; cases h; done) | exact ranges_products_3p1_ne' k xf xk 2050 _ _ (by simp) (by simp)

def sd40013 (ν0 ν1 ν2:Nat) (μ0:List Sn) (μ1:List Sn):St:=⟨40,[(25,B false),(4,.lsl ν0 0 μ0.length 2 none),(22,.lsl ν1 0 μ1.length 2 none),(23,I ((μ1.length:Nat):Int)),(24,I ((μ1.length:Nat):Int))],[(ν0,⟨μ0.map Sn.D,2,false⟩),(ν1,⟨μ1.map Sn.D,2,false⟩)],ν2,ν0⟩

noncomputable def lp71_3:Code:=subC [1,1,0,1,0,0] (bodyC Tryz.f71)

def sd40014 (ν0 ν1 ν2 ν3 ν4 ν5:Nat) (μ0:Nat) (μ1:List Sn) (μ2:Sn) (μ3:List Sn):St:=⟨40,[(24,I ((μ0+1:Nat):Int)),(38,I ((μ0+1:Nat):Int)),(4,.lsl ν0 0 ((μ1++[(⟨w64 (0 - μ2.hi),w64 (0 - μ2.lo)⟩:Sn)]).length) 2 none),(37,.lsl ν0 0 ((μ1++[(⟨w64 (0 - μ2.hi),w64 (0 - μ2.lo)⟩:Sn)]).length) 2 none),(36,.lsl ν1 0 1 2 (some 1)),(35,.agg [I (w64 (0 - μ2.hi)),I (w64 (0 - μ2.lo))]),(34,I (w64 (0 - μ2.lo))),(33,I μ2.lo),(32,.lref ν2 0 2 0),(31,I (w64 (0 - μ2.hi))),(30,I μ2.hi),(29,.lref ν2 0 2 1),(28,.lsl ν3 0 μ1.length 2 none),(6,.lref ν2 0 2 0),(27,.agg [I μ2.lo,I μ2.hi]),(26,.lref ν4 μ0 2 0),(25,B true),(4,.lsl ν3 0 μ1.length 2 none),(22,.lsl ν4 0 μ3.length 2 none),(23,I ((μ3.length:Nat):Int)),(24,I ((μ0:Nat):Int))],[(ν4,⟨μ3.map Sn.D,2,false⟩),(ν2,⟨[.agg [I μ2.lo,I μ2.hi]],2,false⟩),(ν1,⟨[.agg [I (w64 (0 - μ2.hi)),I (w64 (0 - μ2.lo))]],2,false⟩),(ν0,⟨(μ1++[(⟨w64 (0 - μ2.hi),w64 (0 - μ2.lo)⟩:Sn)]).map Sn.D,2,false⟩)],ν5,ν3⟩

inductive LR_ranges_Times_1_3 where
 | x0 (xp:List Sn)
instance:Inhabited LR_ranges_Times_1_3:=⟨.x0 default⟩
def zD:List Sn→(List Sn)→LR_ranges_Times_1_3
 | [],xp=>.x0 xp
 | x3::xA,xp =>
  zD xA (xp++[(⟨w64 (0 - x3.hi),w64 (0 - x3.lo)⟩:Sn)])
def lr_ranges_Times_1_3 (q3_1:List Sn):LR_ranges_Times_1_3→Exit × St
 | .x0 xp=>((.exit 0),(sd40013 0 1 2 xp q3_1))
def iv_ranges_Times_1_3 (q3_1:List Sn):LR_ranges_Times_1_3→Prop
 | .x0 xp=>(xp.length≤2049+q3_1.length)
theorem lp_ranges_Times_1_3 (q3_1:List Sn):∀ (xA:List Sn) (i3:Nat) (xp:List Sn) (hd3:q3_1.drop i3=xA) (hi3:i3≤q3_1.length) (hl49:q3_1.length≤2049) (hg3_v3_0:xp.length≤2049+i3) (hL3:q3_1.length≤1099511627776),(lim cfg).loop 71 lp71_3 ⟨40,[(4,.lsl 0 0 xp.length 2 none),(22,.lsl 1 0 q3_1.length 2 none),(23,I ((q3_1.length:Nat):Int)),(24,I ((i3:Nat):Int))],[(0,⟨xp.map Sn.D,2,false⟩),(1,⟨q3_1.map Sn.D,2,false⟩)],2,0⟩=some (lr_ranges_Times_1_3 q3_1 (zD xA xp)):=by
 intro xA
 induction xA with
 | nil =>
  intro i3 xp hd3 hi3 hl49 hg3_v3_0 hL3
  unfold zD
  obtain rfl:i3=q3_1.length:=nil_eq hd3 hi3
  exact zy [.dec false] (Ai (lt_no hd3) trivial) (by kernel_rfl)
 | cons x3 xA ih =>
  intro i3 xp hd3 hi3 hl49 hg3_v3_0 hL3
  have hlt3:=zg hd3
  unfold zD
  exact zN (ks:=[4,22,23,24]) (st':=(sd40014 4 3 2 0 1 5 i3 xp x3 q3_1)) [.dec true,.op (some 26) ⟨.lref 1 i3 2 0,[],[],2⟩,.op (some 27) ⟨.agg [I x3.lo,I x3.hi],[],[1],2⟩,.op (some 37) ⟨.lsl 4 0 ((xp++[(⟨w64 (0 - x3.hi),w64 (0 - x3.lo)⟩:Sn)]).length) 2 none,[(0,none),(4,some ⟨(xp++[(⟨w64 (0 - x3.hi),w64 (0 - x3.lo)⟩:Sn)]).map Sn.D,2,false⟩)],[0,3],5⟩,.rw 38 (I ((i3+1:Nat):Int))] (Ai (ya (i:=i3) (by have:=zg hd3; omega)) (Ai (app_row (f:=Sn.D) (te:=zS) (gO:=zt [(0,⟨xp.map Sn.D,2,false⟩),(1,⟨q3_1.map Sn.D,2,false⟩),(2,⟨[.agg [I x3.lo,I x3.hi]],2,false⟩),(3,⟨[.agg [I (w64 (0 - x3.hi)),I (w64 (0 - x3.lo))]],2,false⟩)]) (nxt:=4) (o:=0) (o2:=3) (fz:=false) z7 xp (⟨w64 (0 - x3.hi),w64 (0 - x3.lo)⟩:Sn) (by kernel_rfl) (by kernel_rfl) rfl (by kernel_rfl) (by decide) ⟨by simp only [zS,big] <;> (omega),by simp only [big] <;> (omega)⟩) (Ai (load_row (C:=cfg) (objs:=[(0,⟨xp.map Sn.D,2,false⟩),(1,⟨q3_1.map Sn.D,2,false⟩)]) (nxt:=2) (t:=25) (ty:=zS) (o:=1) (n:=i3) (sz:=2) (sub:=0) (ob:=⟨q3_1.map Sn.D,2,false⟩) (e:=Sn.D x3) (d:=.agg [I x3.lo,I x3.hi]) (by kernel_rfl) (by kernel_rfl) rfl (row_at (f:=Sn.D) hd3) (by kernel_rfl)) (Ai (idx_row (C:=cfg) (nxt:=2) (t:=22) (ty:=ty22) (te:=zS) (e:=25) (o:=1) (len:=q3_1.length) (sz:=2) (cap:=none) (i:=((i3:Nat):Int)) (by kernel_rfl) rfl (by kernel_rfl) rfl (by omega) (by omega)) (Ai (yb hd3) trivial))))) (by kernel_rfl) (by (simp only [sd40014,go_sem,List.length_set,Nat.reduceAdd,Nat.reduceEqDiff,Nat.reduceLT,Nat.reduceLeDiff,bI2,zc.idsL,zc.renL,zc.snapAll,z7.idsL,z7.renL,z7.snapAll]) <;> rfl) (ih (i3+1) (xp++[(⟨w64 (0 - x3.hi),w64 (0 - x3.lo)⟩:Sn)]) (zh hd3) (zg hd3) (by omega) (by simp only [List.length_append,List.length_cons,List.length_nil] at * <;> omega) (by omega)) (by kernel_rfl)
theorem ivt_ranges_Times_1_3 (q3_1:List Sn):∀ (xA:List Sn) (i3:Nat) (xp:List Sn) (hd3:q3_1.drop i3=xA) (hi3:i3≤q3_1.length) (hl49:q3_1.length≤2049) (hg3_v3_0:xp.length≤2049+i3) (hL3:q3_1.length≤1099511627776),iv_ranges_Times_1_3 q3_1 (zD xA xp):=by
 intro xA
 induction xA with
 | nil =>
  intro i3 xp hd3 hi3 hl49 hg3_v3_0 hL3
  unfold zD
  obtain rfl:i3=q3_1.length:=nil_eq hd3 hi3
  exact hg3_v3_0
 | cons x3 xA ih =>
  intro i3 xp hd3 hi3 hl49 hg3_v3_0 hL3
  have hlt3:=zg hd3
  unfold zD
  exact ih (i3+1) (xp++[(⟨w64 (0 - x3.hi),w64 (0 - x3.lo)⟩:Sn)]) (zh hd3) (zg hd3) (by omega) (by simp only [List.length_append,List.length_cons,List.length_nil] at * <;> omega) (by omega)

inductive LR_ranges_products_3p2 where
 | x0 (yG:List Sn) (yU:Int)
 | x1 (yG:List Sn) (yU:Int)
 | x2 (yG:List Sn) (yU:Int)
 | x3
 | x4
 | out
instance:Inhabited LR_ranges_products_3p2:=⟨.out⟩
def yi (k:Sn) (x9:Int) (xl:Int):Nat→(List Sn)→Int→LR_ranges_products_3p2
 | 0,_,_=>.out
 | yW+1,yG,yU =>
  bif decide (yU≤x9) then
   bif decide ((w64 (yU * (w64 (k.hi - k.lo)))) ≥ (w64 (k.lo - 1))) then
    .x0 yG yU
   else
    bif decide ((((yG++[(⟨w64 (yU * k.lo),w64 (yU * k.hi)⟩:Sn)]).length:Nat):Int) > 2048) then
     .x1 yG yU
    else
     yi k x9 xl yW (yG++[(⟨w64 (yU * k.lo),w64 (yU * k.hi)⟩:Sn)]) (w64 (yU+1))
  else
   .x2 yG yU
def ye (k:Sn) (x9:Int) (xl:Int):Nat→LR_ranges_products_3p2
 | 0=>.out
 | yW+1 =>
  bif decide (xl≤x9) then
   bif decide ((w64 (xl * (w64 (k.hi - k.lo)))) ≥ (w64 (k.lo - 1))) then
    .x3
   else
    yi k x9 xl yW [(⟨w64 (xl * k.lo),w64 (xl * k.hi)⟩:Sn)] (w64 (xl+1))
  else
   .x4
def lr_ranges_products_3p2 (k:Sn) (x9:Int) (xl:Int):LR_ranges_products_3p2→Exit × St
 | .x0 yG yU=>(.ret,(sd40006 6 5 3 4 7 yG yU k x9))
 | .x1 yG yU=>((.exit 0),(sd40007 6 5 3 4 7 yG yU k x9))
 | .x2 yG yU=>((.exit 0),(sd40008 3 4 5 x9 yU yG k))
 | .x3=>(.ret,(sd40009 5 4 3 6 xl k x9))
 | .x4=>((.exit 0),(sd40010 3 4 x9 xl k))
 | .out=>(.normal,⟨0,[],[],0,0⟩)
def iv_ranges_products_3p2 (k:Sn) (x9:Int) (xl:Int):LR_ranges_products_3p2→Prop
 | .x0 yG yU=>(yG.length≤2048)
 | .x1 yG yU=>(yG.length≤2048)
 | .x2 yG yU=>(yG.length≤2048)
 | .x3=>True
 | .x4=>True
 | .out=>True
def ranges_products_3p2a_f_o1 (k:Sn) (yG:List Sn) (yU:Int):List Ora:=[.dec true,.dec false,.op (some 49) ⟨.lsl 6 0 ((yG++[(⟨w64 (yU * k.lo),w64 (yU * k.hi)⟩:Sn)]).length) 2 none,[(4,none),(6,some ⟨(yG++[(⟨w64 (yU * k.lo),w64 (yU * k.hi)⟩:Sn)]).map Sn.D,2,false⟩)],[4,5],7⟩]
theorem lp_ranges_products_3p2a (k:Sn) (x9:Int) (xl:Int):∀ (yW:Nat) (yG:List Sn) (yU:Int) (xN:yi k x9 xl yW yG yU ≠ .out) (hw1:yG.length≤2048),(lim cfg).loop 72 lp72_3 ⟨54,[(1,I x9),(5,.lref 3 0 2 0),(7,.lsl 4 0 yG.length 2 none),(8,I yU)],[(3,⟨[.agg [I k.lo,I k.hi]],2,false⟩),(4,⟨yG.map Sn.D,2,false⟩)],5,3⟩=some (lr_ranges_products_3p2 k x9 xl (yi k x9 xl yW yG yU)):=by
 intro yW
 induction yW with
 | zero =>
  intro yG yU xN hw1
  exact absurd rfl xN
 | succ yW ih =>
  intro yG yU xN hw1
  unfold yi at xN ⊢
  revert xN
  cases h41:decide (yU≤x9) with
  | true =>
   have g41:=of_decide_eq_true h41
   cases h42:decide ((w64 (yU * (w64 (k.hi - k.lo)))) ≥ (w64 (k.lo - 1))) with
   | true =>
    have g42:=of_decide_eq_true h42
    intro xN
    exact zy [.dec true,.dec true,.op (some 37) ⟨.lsl 6 0 ((yG++[(⟨w64 (yU * k.lo),w64 (x9 * k.hi)⟩:Sn)]).length) 2 none,[(4,none),(6,some ⟨(yG++[(⟨w64 (yU * k.lo),w64 (x9 * k.hi)⟩:Sn)]).map Sn.D,2,false⟩)],[4,5],7⟩] (Ai (app_row (f:=Sn.D) (te:=zS) (gO:=zt [(3,⟨[.agg [I k.lo,I k.hi]],2,false⟩),(4,⟨yG.map Sn.D,2,false⟩),(5,⟨[.agg [I (w64 (yU * k.lo)),I (w64 (x9 * k.hi))]],2,false⟩)]) (nxt:=6) (o:=4) (o2:=5) (fz:=false) z7 yG (⟨w64 (yU * k.lo),w64 (x9 * k.hi)⟩:Sn) (by kernel_rfl) (by kernel_rfl) rfl (by kernel_rfl) (by decide) ⟨by simp only [zS,big] <;> (omega),by simp only [big] <;> (omega)⟩) (Ai h42 (Ai h41 trivial))) (by kernel_rfl)
   | false =>
    have g42:=of_decide_eq_false h42
    have p1:=(app_row (f:=Sn.D) (te:=zS) (gO:=zt [(3,⟨[.agg [I k.lo,I k.hi]],2,false⟩),(4,⟨yG.map Sn.D,2,false⟩),(5,⟨[.agg [I (w64 (yU * k.lo)),I (w64 (yU * k.hi))]],2,false⟩)]) (nxt:=6) (o:=4) (o2:=5) (fz:=false) z7 yG (⟨w64 (yU * k.lo),w64 (yU * k.hi)⟩:Sn) (by kernel_rfl) (by kernel_rfl) rfl (by kernel_rfl) (by decide) ⟨by simp only [zS,big] <;> (omega),by simp only [big] <;> (omega)⟩)
    cases h43:decide ((((yG++[(⟨w64 (yU * k.lo),w64 (yU * k.hi)⟩:Sn)]).length:Nat):Int) > 2048) with
    | true =>
     have g43:=of_decide_eq_true h43
     intro xN
     exact zy ((ranges_products_3p2a_f_o1 k yG yU)++[.dec true]) (Ai h43 (Ai p1 (Ai h42 (Ai h41 trivial)))) (by kernel_rfl)
    | false =>
     have g43:=of_decide_eq_false h43
     intro xN
     exact zN (ks:=[1,5,7,8]) (st':=(sd40011 6 5 3 4 7 yU yG k x9)) ((ranges_products_3p2a_f_o1 k yG yU)++[.dec false]) (Ai h43 (Ai p1 (Ai h42 (Ai h41 trivial)))) (by kernel_rfl) (by (simp only [sd40011,go_sem,List.length_set,Nat.reduceAdd,Nat.reduceEqDiff,Nat.reduceLT,Nat.reduceLeDiff,bI2,zc.idsL,zc.renL,zc.snapAll,z7.idsL,z7.renL,z7.snapAll]) <;> rfl) (ih (yG++[(⟨w64 (yU * k.lo),w64 (yU * k.hi)⟩:Sn)]) (w64 (yU+1)) xN (by omega)) (by kernel_rfl)
  | false =>
   have g41:=of_decide_eq_false h41
   intro xN
   exact zy [.dec false] (Ai h41 trivial) (by kernel_rfl)
theorem ivt_ranges_products_3p2a (k:Sn) (x9:Int) (xl:Int):∀ (yW:Nat) (yG:List Sn) (yU:Int) (xN:yi k x9 xl yW yG yU ≠ .out) (hw1:yG.length≤2048),iv_ranges_products_3p2 k x9 xl (yi k x9 xl yW yG yU):=by
 intro yW
 induction yW with
 | zero =>
  intro yG yU xN hw1
  exact absurd rfl xN
 | succ yW ih =>
  intro yG yU xN hw1
  unfold yi at xN ⊢
  revert xN
  cases h41:decide (yU≤x9) with
  | true =>
   have g41:=of_decide_eq_true h41
   cases h42:decide ((w64 (yU * (w64 (k.hi - k.lo)))) ≥ (w64 (k.lo - 1))) with
   | true =>
    have g42:=of_decide_eq_true h42
    intro xN
    exact hw1
   | false =>
    have g42:=of_decide_eq_false h42
    cases h43:decide ((((yG++[(⟨w64 (yU * k.lo),w64 (yU * k.hi)⟩:Sn)]).length:Nat):Int) > 2048) with
    | true =>
     have g43:=of_decide_eq_true h43
     intro xN
     exact hw1
    | false =>
     have g43:=of_decide_eq_false h43
     intro xN
     exact ih (yG++[(⟨w64 (yU * k.lo),w64 (yU * k.hi)⟩:Sn)]) (w64 (yU+1)) xN (by omega)
  | false =>
   have g41:=of_decide_eq_false h41
   intro xN
   exact hw1
theorem lp_ranges_products_3p2 (k:Sn) (x9:Int) (xl:Int):∀ (yW:Nat) (xN:ye k x9 xl yW ≠ .out),(lim cfg).loop 72 lp72_3 ⟨54,[(1,I x9),(5,.lref 3 0 2 0),(7,.sl true [] 0 none),(8,I xl)],[(3,⟨[.agg [I k.lo,I k.hi]],2,false⟩)],4,3⟩=some (lr_ranges_products_3p2 k x9 xl (ye k x9 xl yW)):=by
 intro yW
 induction yW with
 | zero =>
  intro xN
  exact absurd rfl xN
 | succ yW ih =>
  intro xN
  unfold ye at xN ⊢
  revert xN
  cases h44:decide (xl≤x9) with
  | true =>
   have g44:=of_decide_eq_true h44
   cases h45:decide ((w64 (xl * (w64 (k.hi - k.lo)))) ≥ (w64 (k.lo - 1))) with
   | true =>
    have g45:=of_decide_eq_true h45
    intro xN
    exact zy [.dec true,.dec true] (Ai h45 (Ai h44 trivial)) (by kernel_rfl)
   | false =>
    have g45:=of_decide_eq_false h45
    intro xN
    exact po_turn [.dec true,.dec false,.dec false] (Ai (Eq.refl false) (Ai h45 (Ai h44 trivial))) (lp_ranges_products_3p2a k x9 xl _ [(⟨w64 (xl * k.lo),w64 (xl * k.hi)⟩:Sn)] (w64 (xl+1)) xN (by simp only [List.length_append,List.length_cons,List.length_nil] at * <;> omega)) (by kernel_rfl)
  | false =>
   have g44:=of_decide_eq_false h44
   intro xN
   exact zy [.dec false] (Ai h44 trivial) (by kernel_rfl)
theorem ivt_ranges_products_3p2 (k:Sn) (x9:Int) (xl:Int):∀ (yW:Nat) (xN:ye k x9 xl yW ≠ .out),iv_ranges_products_3p2 k x9 xl (ye k x9 xl yW):=by
 intro yW
 induction yW with
 | zero =>
  intro xN
  exact absurd rfl xN
 | succ yW ih =>
  intro xN
  unfold ye at xN ⊢
  revert xN
  cases h44:decide (xl≤x9) with
  | true =>
   have g44:=of_decide_eq_true h44
   cases h45:decide ((w64 (xl * (w64 (k.hi - k.lo)))) ≥ (w64 (k.lo - 1))) with
   | true =>
    have g45:=of_decide_eq_true h45
    intro xN
    exact trivial
   | false =>
    have g45:=of_decide_eq_false h45
    intro xN
    exact ivt_ranges_products_3p2a k x9 xl _ [(⟨w64 (xl * k.lo),w64 (xl * k.hi)⟩:Sn)] (w64 (xl+1)) xN (by simp only [List.length_append,List.length_cons,List.length_nil] at * <;> omega)
  | false =>
   have g44:=of_decide_eq_false h44
   intro xN
   exact trivial

theorem ranges_products_3p2_ne' (k:Sn) (x9:Int) (xl:Int):∀ (n:Nat) (v:List Sn) (i:Int),2050≤v.length+n→v.length≤2048→yi k x9 xl n v i ≠ .out
 | 0,v,i,h1,h2=>by omega
 | n+1,v,i,h1,h2=>by
  unfold yi
  simp only [Bool.cond_eq_ite]
  repeat' split
  all_goals simp only [decide_eq_true_eq] at *
  all_goals first | (intro h; cases h; done) | exact ranges_products_3p2_ne' k x9 xl n _ _ (by simp only [List.length_append,List.length_cons,List.length_nil] at *; omega) (by simp only [List.length_append,List.length_cons,List.length_nil] at *; omega)
theorem yq (k:Sn) (x9:Int) (xl:Int):ye k x9 xl 2051 ≠ .out:=by
 unfold ye
 simp only [Bool.cond_eq_ite]
 repeat' split
 all_goals first | (intro h; cases h; done) | exact ranges_products_3p2_ne' k x9 xl 2050 _ _ (by simp) (by simp)

inductive LR_ranges_products_3p3 where
 | x0 (yI:List Sn) (yV:Int)
 | x1 (yI:List Sn) (yV:Int)
 | x2 (yI:List Sn) (yV:Int)
 | x3
 | x4
 | out
instance:Inhabited LR_ranges_products_3p3:=⟨.out⟩
def yj (k:Sn) (xm:Int) (xn:Int):Nat→(List Sn)→Int→LR_ranges_products_3p3
 | 0,_,_=>.out
 | yY+1,yI,yV =>
  bif decide (yV≤xm) then
   bif decide ((w64 (yV * (w64 (k.hi - k.lo)))) ≥ (w64 (k.lo - 1))) then
    .x0 yI yV
   else
    bif decide ((((yI++[(⟨w64 (yV * k.lo),w64 (yV * k.hi)⟩:Sn)]).length:Nat):Int) > 2048) then
     .x1 yI yV
    else
     yj k xm xn yY (yI++[(⟨w64 (yV * k.lo),w64 (yV * k.hi)⟩:Sn)]) (w64 (yV+1))
  else
   .x2 yI yV
def yf (k:Sn) (xm:Int) (xn:Int):Nat→LR_ranges_products_3p3
 | 0=>.out
 | yY+1 =>
  bif decide (xn≤xm) then
   bif decide ((w64 (xn * (w64 (k.hi - k.lo)))) ≥ (w64 (k.lo - 1))) then
    .x3
   else
    yj k xm xn yY [(⟨w64 (xn * k.lo),w64 (xn * k.hi)⟩:Sn)] (w64 (xn+1))
  else
   .x4
def lr_ranges_products_3p3 (k:Sn) (xm:Int) (xn:Int):LR_ranges_products_3p3→Exit × St
 | .x0 yI yV=>(.ret,(sd40006 7 6 4 5 8 yI yV k xm))
 | .x1 yI yV=>((.exit 0),(sd40007 7 6 4 5 8 yI yV k xm))
 | .x2 yI yV=>((.exit 0),(sd40008 4 5 6 xm yV yI k))
 | .x3=>(.ret,(sd40009 6 5 4 7 xn k xm))
 | .x4=>((.exit 0),(sd40010 4 5 xm xn k))
 | .out=>(.normal,⟨0,[],[],0,0⟩)
def iv_ranges_products_3p3 (k:Sn) (xm:Int) (xn:Int):LR_ranges_products_3p3→Prop
 | .x0 yI yV=>(yI.length≤2048)
 | .x1 yI yV=>(yI.length≤2048)
 | .x2 yI yV=>(yI.length≤2048)
 | .x3=>True
 | .x4=>True
 | .out=>True
def ranges_products_3p3a_f_o1 (k:Sn) (yI:List Sn) (yV:Int):List Ora:=[.dec true,.dec false,.op (some 49) ⟨.lsl 7 0 ((yI++[(⟨w64 (yV * k.lo),w64 (yV * k.hi)⟩:Sn)]).length) 2 none,[(5,none),(7,some ⟨(yI++[(⟨w64 (yV * k.lo),w64 (yV * k.hi)⟩:Sn)]).map Sn.D,2,false⟩)],[5,6],8⟩]
theorem lp_ranges_products_3p3a (k:Sn) (xm:Int) (xn:Int):∀ (yY:Nat) (yI:List Sn) (yV:Int) (xO:yj k xm xn yY yI yV ≠ .out) (hw1:yI.length≤2048),(lim cfg).loop 72 lp72_3 ⟨54,[(1,I xm),(5,.lref 4 0 2 0),(7,.lsl 5 0 yI.length 2 none),(8,I yV)],[(4,⟨[.agg [I k.lo,I k.hi]],2,false⟩),(5,⟨yI.map Sn.D,2,false⟩)],6,4⟩=some (lr_ranges_products_3p3 k xm xn (yj k xm xn yY yI yV)):=by
 intro yY
 induction yY with
 | zero =>
  intro yI yV xO hw1
  exact absurd rfl xO
 | succ yY ih =>
  intro yI yV xO hw1
  unfold yj at xO ⊢
  revert xO
  cases h57:decide (yV≤xm) with
  | true =>
   have g57:=of_decide_eq_true h57
   cases h58:decide ((w64 (yV * (w64 (k.hi - k.lo)))) ≥ (w64 (k.lo - 1))) with
   | true =>
    have g58:=of_decide_eq_true h58
    intro xO
    exact zy [.dec true,.dec true,.op (some 37) ⟨.lsl 7 0 ((yI++[(⟨w64 (yV * k.lo),w64 (xm * k.hi)⟩:Sn)]).length) 2 none,[(5,none),(7,some ⟨(yI++[(⟨w64 (yV * k.lo),w64 (xm * k.hi)⟩:Sn)]).map Sn.D,2,false⟩)],[5,6],8⟩] (Ai (app_row (f:=Sn.D) (te:=zS) (gO:=zt [(4,⟨[.agg [I k.lo,I k.hi]],2,false⟩),(5,⟨yI.map Sn.D,2,false⟩),(6,⟨[.agg [I (w64 (yV * k.lo)),I (w64 (xm * k.hi))]],2,false⟩)]) (nxt:=7) (o:=5) (o2:=6) (fz:=false) z7 yI (⟨w64 (yV * k.lo),w64 (xm * k.hi)⟩:Sn) (by kernel_rfl) (by kernel_rfl) rfl (by kernel_rfl) (by decide) ⟨by simp only [zS,big] <;> (omega),by simp only [big] <;> (omega)⟩) (Ai h58 (Ai h57 trivial))) (by kernel_rfl)
   | false =>
    have g58:=of_decide_eq_false h58
    have p1:=(app_row (f:=Sn.D) (te:=zS) (gO:=zt [(4,⟨[.agg [I k.lo,I k.hi]],2,false⟩),(5,⟨yI.map Sn.D,2,false⟩),(6,⟨[.agg [I (w64 (yV * k.lo)),I (w64 (yV * k.hi))]],2,false⟩)]) (nxt:=7) (o:=5) (o2:=6) (fz:=false) z7 yI (⟨w64 (yV * k.lo),w64 (yV * k.hi)⟩:Sn) (by kernel_rfl) (by kernel_rfl) rfl (by kernel_rfl) (by decide) ⟨by simp only [zS,big] <;> (omega),by simp only [big] <;> (omega)⟩)
    cases h59:decide ((((yI++[(⟨w64 (yV * k.lo),w64 (yV * k.hi)⟩:Sn)]).length:Nat):Int) > 2048) with
    | true =>
     have g59:=of_decide_eq_true h59
     intro xO
     exact zy ((ranges_products_3p3a_f_o1 k yI yV)++[.dec true]) (Ai h59 (Ai p1 (Ai h58 (Ai h57 trivial)))) (by kernel_rfl)
    | false =>
     have g59:=of_decide_eq_false h59
     intro xO
     exact zN (ks:=[1,5,7,8]) (st':=(sd40011 7 6 4 5 8 yV yI k xm)) ((ranges_products_3p3a_f_o1 k yI yV)++[.dec false]) (Ai h59 (Ai p1 (Ai h58 (Ai h57 trivial)))) (by kernel_rfl) (by (simp only [sd40011,go_sem,List.length_set,Nat.reduceAdd,Nat.reduceEqDiff,Nat.reduceLT,Nat.reduceLeDiff,bI2,zc.idsL,zc.renL,zc.snapAll,z7.idsL,z7.renL,z7.snapAll]) <;> rfl) (ih (yI++[(⟨w64 (yV * k.lo),w64 (yV * k.hi)⟩:Sn)]) (w64 (yV+1)) xO (by omega)) (by kernel_rfl)
  | false =>
   have g57:=of_decide_eq_false h57
   intro xO
   exact zy [.dec false] (Ai h57 trivial) (by kernel_rfl)
theorem ivt_ranges_products_3p3a (k:Sn) (xm:Int) (xn:Int):∀ (yY:Nat) (yI:List Sn) (yV:Int) (xO:yj k xm xn yY yI yV ≠ .out) (hw1:yI.length≤2048),iv_ranges_products_3p3 k xm xn (yj k xm xn yY yI yV):=by
 intro yY
 induction yY with
 | zero =>
  intro yI yV xO hw1
  exact absurd rfl xO
 | succ yY ih =>
  intro yI yV xO hw1
  unfold yj at xO ⊢
  revert xO
  cases h57:decide (yV≤xm) with
  | true =>
   have g57:=of_decide_eq_true h57
   cases h58:decide ((w64 (yV * (w64 (k.hi - k.lo)))) ≥ (w64 (k.lo - 1))) with
   | true =>
    have g58:=of_decide_eq_true h58
    intro xO
    exact hw1
   | false =>
    have g58:=of_decide_eq_false h58
    cases h59:decide ((((yI++[(⟨w64 (yV * k.lo),w64 (yV * k.hi)⟩:Sn)]).length:Nat):Int) > 2048) with
    | true =>
     have g59:=of_decide_eq_true h59
     intro xO
     exact hw1
    | false =>
     have g59:=of_decide_eq_false h59
     intro xO
     exact ih (yI++[(⟨w64 (yV * k.lo),w64 (yV * k.hi)⟩:Sn)]) (w64 (yV+1)) xO (by omega)
  | false =>
   have g57:=of_decide_eq_false h57
   intro xO
   exact hw1
theorem lp_ranges_products_3p3 (k:Sn) (xm:Int) (xn:Int):∀ (yY:Nat) (xO:yf k xm xn yY ≠ .out),(lim cfg).loop 72 lp72_3 ⟨54,[(1,I xm),(5,.lref 4 0 2 0),(7,.sl true [] 0 none),(8,I xn)],[(4,⟨[.agg [I k.lo,I k.hi]],2,false⟩)],5,4⟩=some (lr_ranges_products_3p3 k xm xn (yf k xm xn yY)):=by
 intro yY
 induction yY with
 | zero =>
  intro xO
  exact absurd rfl xO
 | succ yY ih =>
  intro xO
  unfold yf at xO ⊢
  revert xO
  cases h60:decide (xn≤xm) with
  | true =>
   have g60:=of_decide_eq_true h60
   cases h61:decide ((w64 (xn * (w64 (k.hi - k.lo)))) ≥ (w64 (k.lo - 1))) with
   | true =>
    have g61:=of_decide_eq_true h61
    intro xO
    exact zy [.dec true,.dec true] (Ai h61 (Ai h60 trivial)) (by kernel_rfl)
   | false =>
    have g61:=of_decide_eq_false h61
    intro xO
    exact po_turn [.dec true,.dec false,.dec false] (Ai (Eq.refl false) (Ai h61 (Ai h60 trivial))) (lp_ranges_products_3p3a k xm xn _ [(⟨w64 (xn * k.lo),w64 (xn * k.hi)⟩:Sn)] (w64 (xn+1)) xO (by simp only [List.length_append,List.length_cons,List.length_nil] at * <;> omega)) (by kernel_rfl)
  | false =>
   have g60:=of_decide_eq_false h60
   intro xO
   exact zy [.dec false] (Ai h60 trivial) (by kernel_rfl)
theorem ivt_ranges_products_3p3 (k:Sn) (xm:Int) (xn:Int):∀ (yY:Nat) (xO:yf k xm xn yY ≠ .out),iv_ranges_products_3p3 k xm xn (yf k xm xn yY):=by
 intro yY
 induction yY with
 | zero =>
  intro xO
  exact absurd rfl xO
 | succ yY ih =>
  intro xO
  unfold yf at xO ⊢
  revert xO
  cases h60:decide (xn≤xm) with
  | true =>
   have g60:=of_decide_eq_true h60
   cases h61:decide ((w64 (xn * (w64 (k.hi - k.lo)))) ≥ (w64 (k.lo - 1))) with
   | true =>
    have g61:=of_decide_eq_true h61
    intro xO
    exact trivial
   | false =>
    have g61:=of_decide_eq_false h61
    intro xO
    exact ivt_ranges_products_3p3a k xm xn _ [(⟨w64 (xn * k.lo),w64 (xn * k.hi)⟩:Sn)] (w64 (xn+1)) xO (by simp only [List.length_append,List.length_cons,List.length_nil] at * <;> omega)
  | false =>
   have g60:=of_decide_eq_false h60
   intro xO
   exact trivial

theorem ranges_products_3p3_ne' (k:Sn) (xm:Int) (xn:Int):∀ (n:Nat) (v:List Sn) (i:Int),2050≤v.length+n→v.length≤2048→yj k xm xn n v i ≠ .out
 | 0,v,i,h1,h2=>by omega
 | n+1,v,i,h1,h2=>by
  unfold yj
  simp only [Bool.cond_eq_ite]
  repeat' split
  all_goals simp only [decide_eq_true_eq] at *
  all_goals first | (intro h; cases h; done) | exact ranges_products_3p3_ne' k xm xn n _ _ (by simp only [List.length_append,List.length_cons,List.length_nil] at *; omega) (by simp only [List.length_append,List.length_cons,List.length_nil] at *; omega)
theorem yt (k:Sn) (xm:Int) (xn:Int):yf k xm xn 2051 ≠ .out:=by
 unfold yf
 simp only [Bool.cond_eq_ite]
 repeat' split
 all_goals first | (intro h; cases h; done) | exact ranges_products_3p3_ne' k xm xn 2050 _ _ (by simp) (by simp)

inductive LR_ranges_Times_1_3p1 where
 | x0 (xv:List Sn)
instance:Inhabited LR_ranges_Times_1_3p1:=⟨.x0 default⟩
def zZ:List Sn→(List Sn)→LR_ranges_Times_1_3p1
 | [],xv=>.x0 xv
 | w7::xh,xv =>
  zZ xh (xv++[(⟨w64 (0 - w7.hi),w64 (0 - w7.lo)⟩:Sn)])
def lr_ranges_Times_1_3p1 (xf:List Sn):LR_ranges_Times_1_3p1→Exit × St
 | .x0 xv=>((.exit 0),(sd40013 0 1 2 xv xf))
def iv_ranges_Times_1_3p1 (xf:List Sn):LR_ranges_Times_1_3p1→Prop
 | .x0 xv=>(xv.length≤2049+xf.length)
theorem lp_ranges_Times_1_3p1 (xf:List Sn):∀ (xh:List Sn) (i3p1:Nat) (xv:List Sn) (hd3p1:xf.drop i3p1=xh) (hi3p1:i3p1≤xf.length) (hl49:xf.length≤2049) (hg3p1_v3p1_0:xv.length≤2049+i3p1) (hL3p1:xf.length≤1099511627776),(lim cfg).loop 71 lp71_3 ⟨40,[(4,.lsl 0 0 xv.length 2 none),(22,.lsl 1 0 xf.length 2 none),(23,I ((xf.length:Nat):Int)),(24,I ((i3p1:Nat):Int))],[(0,⟨xv.map Sn.D,2,false⟩),(1,⟨xf.map Sn.D,2,false⟩)],2,0⟩=some (lr_ranges_Times_1_3p1 xf (zZ xh xv)):=by
 intro xh
 induction xh with
 | nil =>
  intro i3p1 xv hd3p1 hi3p1 hl49 hg3p1_v3p1_0 hL3p1
  unfold zZ
  obtain rfl:i3p1=xf.length:=nil_eq hd3p1 hi3p1
  exact zy [.dec false] (Ai (lt_no hd3p1) trivial) (by kernel_rfl)
 | cons w7 xh ih =>
  intro i3p1 xv hd3p1 hi3p1 hl49 hg3p1_v3p1_0 hL3p1
  have hlt3p1:=zg hd3p1
  unfold zZ
  exact zN (ks:=[4,22,23,24]) (st':=(sd40014 4 3 2 0 1 5 i3p1 xv w7 xf)) [.dec true,.op (some 26) ⟨.lref 1 i3p1 2 0,[],[],2⟩,.op (some 27) ⟨.agg [I w7.lo,I w7.hi],[],[1],2⟩,.op (some 37) ⟨.lsl 4 0 ((xv++[(⟨w64 (0 - w7.hi),w64 (0 - w7.lo)⟩:Sn)]).length) 2 none,[(0,none),(4,some ⟨(xv++[(⟨w64 (0 - w7.hi),w64 (0 - w7.lo)⟩:Sn)]).map Sn.D,2,false⟩)],[0,3],5⟩,.rw 38 (I ((i3p1+1:Nat):Int))] (Ai (ya (i:=i3p1) (by have:=zg hd3p1; omega)) (Ai (app_row (f:=Sn.D) (te:=zS) (gO:=zt [(0,⟨xv.map Sn.D,2,false⟩),(1,⟨xf.map Sn.D,2,false⟩),(2,⟨[.agg [I w7.lo,I w7.hi]],2,false⟩),(3,⟨[.agg [I (w64 (0 - w7.hi)),I (w64 (0 - w7.lo))]],2,false⟩)]) (nxt:=4) (o:=0) (o2:=3) (fz:=false) z7 xv (⟨w64 (0 - w7.hi),w64 (0 - w7.lo)⟩:Sn) (by kernel_rfl) (by kernel_rfl) rfl (by kernel_rfl) (by decide) ⟨by simp only [zS,big] <;> (omega),by simp only [big] <;> (omega)⟩) (Ai (load_row (C:=cfg) (objs:=[(0,⟨xv.map Sn.D,2,false⟩),(1,⟨xf.map Sn.D,2,false⟩)]) (nxt:=2) (t:=25) (ty:=zS) (o:=1) (n:=i3p1) (sz:=2) (sub:=0) (ob:=⟨xf.map Sn.D,2,false⟩) (e:=Sn.D w7) (d:=.agg [I w7.lo,I w7.hi]) (by kernel_rfl) (by kernel_rfl) rfl (row_at (f:=Sn.D) hd3p1) (by kernel_rfl)) (Ai (idx_row (C:=cfg) (nxt:=2) (t:=22) (ty:=ty22) (te:=zS) (e:=25) (o:=1) (len:=xf.length) (sz:=2) (cap:=none) (i:=((i3p1:Nat):Int)) (by kernel_rfl) rfl (by kernel_rfl) rfl (by omega) (by omega)) (Ai (yb hd3p1) trivial))))) (by kernel_rfl) (by (simp only [sd40014,go_sem,List.length_set,Nat.reduceAdd,Nat.reduceEqDiff,Nat.reduceLT,Nat.reduceLeDiff,bI2,zc.idsL,zc.renL,zc.snapAll,z7.idsL,z7.renL,z7.snapAll]) <;> rfl) (ih (i3p1+1) (xv++[(⟨w64 (0 - w7.hi),w64 (0 - w7.lo)⟩:Sn)]) (zh hd3p1) (zg hd3p1) (by omega) (by simp only [List.length_append,List.length_cons,List.length_nil] at * <;> omega) (by omega)) (by kernel_rfl)
theorem ivt_ranges_Times_1_3p1 (xf:List Sn):∀ (xh:List Sn) (i3p1:Nat) (xv:List Sn) (hd3p1:xf.drop i3p1=xh) (hi3p1:i3p1≤xf.length) (hl49:xf.length≤2049) (hg3p1_v3p1_0:xv.length≤2049+i3p1) (hL3p1:xf.length≤1099511627776),iv_ranges_Times_1_3p1 xf (zZ xh xv):=by
 intro xh
 induction xh with
 | nil =>
  intro i3p1 xv hd3p1 hi3p1 hl49 hg3p1_v3p1_0 hL3p1
  unfold zZ
  obtain rfl:i3p1=xf.length:=nil_eq hd3p1 hi3p1
  exact hg3p1_v3p1_0
 | cons w7 xh ih =>
  intro i3p1 xv hd3p1 hi3p1 hl49 hg3p1_v3p1_0 hL3p1
  have hlt3p1:=zg hd3p1
  unfold zZ
  exact ih (i3p1+1) (xv++[(⟨w64 (0 - w7.hi),w64 (0 - w7.lo)⟩:Sn)]) (zh hd3p1) (zg hd3p1) (by omega) (by simp only [List.length_append,List.length_cons,List.length_nil] at * <;> omega) (by omega)

inductive LR_ranges_products_3p4 where
 | x0 (yM:List Sn) (yT:Int)
 | x1 (yM:List Sn) (yT:Int)
 | x2 (yM:List Sn) (yT:Int)
 | x3
 | x4
 | out
instance:Inhabited LR_ranges_products_3p4:=⟨.out⟩
def yk (k:Sn) (yF:Int) (xo:Int):Nat→(List Sn)→Int→LR_ranges_products_3p4
 | 0,_,_=>.out
 | xj+1,yM,yT =>
  bif decide (yT≤yF) then
   bif decide ((w64 (yT * (w64 (k.hi - k.lo)))) ≥ (w64 (k.lo - 1))) then
    .x0 yM yT
   else
    bif decide ((((yM++[(⟨w64 (yT * k.lo),w64 (yT * k.hi)⟩:Sn)]).length:Nat):Int) > 2048) then
     .x1 yM yT
    else
     yk k yF xo xj (yM++[(⟨w64 (yT * k.lo),w64 (yT * k.hi)⟩:Sn)]) (w64 (yT+1))
  else
   .x2 yM yT
def yg (k:Sn) (yF:Int) (xo:Int):Nat→LR_ranges_products_3p4
 | 0=>.out
 | xj+1 =>
  bif decide (xo≤yF) then
   bif decide ((w64 (xo * (w64 (k.hi - k.lo)))) ≥ (w64 (k.lo - 1))) then
    .x3
   else
    yk k yF xo xj [(⟨w64 (xo * k.lo),w64 (xo * k.hi)⟩:Sn)] (w64 (xo+1))
  else
   .x4
def lr_ranges_products_3p4 (k:Sn) (yF:Int) (xo:Int):LR_ranges_products_3p4→Exit × St
 | .x0 yM yT=>(.ret,(sd40006 5 4 2 3 6 yM yT k yF))
 | .x1 yM yT=>((.exit 0),(sd40007 5 4 2 3 6 yM yT k yF))
 | .x2 yM yT=>((.exit 0),(sd40008 2 3 4 yF yT yM k))
 | .x3=>(.ret,(sd40009 4 3 2 5 xo k yF))
 | .x4=>((.exit 0),(sd40010 2 3 yF xo k))
 | .out=>(.normal,⟨0,[],[],0,0⟩)
def iv_ranges_products_3p4 (k:Sn) (yF:Int) (xo:Int):LR_ranges_products_3p4→Prop
 | .x0 yM yT=>(yM.length≤2048)
 | .x1 yM yT=>(yM.length≤2048)
 | .x2 yM yT=>(yM.length≤2048)
 | .x3=>True
 | .x4=>True
 | .out=>True
def ranges_products_3p4a_f_o1 (k:Sn) (yM:List Sn) (yT:Int):List Ora:=[.dec true,.dec false,.op (some 49) ⟨.lsl 5 0 ((yM++[(⟨w64 (yT * k.lo),w64 (yT * k.hi)⟩:Sn)]).length) 2 none,[(3,none),(5,some ⟨(yM++[(⟨w64 (yT * k.lo),w64 (yT * k.hi)⟩:Sn)]).map Sn.D,2,false⟩)],[3,4],6⟩]
theorem lp_ranges_products_3p4a (k:Sn) (yF:Int) (xo:Int):∀ (xj:Nat) (yM:List Sn) (yT:Int) (xP:yk k yF xo xj yM yT ≠ .out) (hw1:yM.length≤2048),(lim cfg).loop 72 lp72_3 ⟨54,[(1,I yF),(5,.lref 2 0 2 0),(7,.lsl 3 0 yM.length 2 none),(8,I yT)],[(2,⟨[.agg [I k.lo,I k.hi]],2,false⟩),(3,⟨yM.map Sn.D,2,false⟩)],4,2⟩=some (lr_ranges_products_3p4 k yF xo (yk k yF xo xj yM yT)):=by
 intro xj
 induction xj with
 | zero =>
  intro yM yT xP hw1
  exact absurd rfl xP
 | succ xj ih =>
  intro yM yT xP hw1
  unfold yk at xP ⊢
  revert xP
  cases h73:decide (yT≤yF) with
  | true =>
   have g73:=of_decide_eq_true h73
   cases h74:decide ((w64 (yT * (w64 (k.hi - k.lo)))) ≥ (w64 (k.lo - 1))) with
   | true =>
    have g74:=of_decide_eq_true h74
    intro xP
    exact zy [.dec true,.dec true,.op (some 37) ⟨.lsl 5 0 ((yM++[(⟨w64 (yT * k.lo),w64 (yF * k.hi)⟩:Sn)]).length) 2 none,[(3,none),(5,some ⟨(yM++[(⟨w64 (yT * k.lo),w64 (yF * k.hi)⟩:Sn)]).map Sn.D,2,false⟩)],[3,4],6⟩] (Ai (app_row (f:=Sn.D) (te:=zS) (gO:=zt [(2,⟨[.agg [I k.lo,I k.hi]],2,false⟩),(3,⟨yM.map Sn.D,2,false⟩),(4,⟨[.agg [I (w64 (yT * k.lo)),I (w64 (yF * k.hi))]],2,false⟩)]) (nxt:=5) (o:=3) (o2:=4) (fz:=false) z7 yM (⟨w64 (yT * k.lo),w64 (yF * k.hi)⟩:Sn) (by kernel_rfl) (by kernel_rfl) rfl (by kernel_rfl) (by decide) ⟨by simp only [zS,big] <;> (omega),by simp only [big] <;> (omega)⟩) (Ai h74 (Ai h73 trivial))) (by kernel_rfl)
   | false =>
    have g74:=of_decide_eq_false h74
    have p1:=(app_row (f:=Sn.D) (te:=zS) (gO:=zt [(2,⟨[.agg [I k.lo,I k.hi]],2,false⟩),(3,⟨yM.map Sn.D,2,false⟩),(4,⟨[.agg [I (w64 (yT * k.lo)),I (w64 (yT * k.hi))]],2,false⟩)]) (nxt:=5) (o:=3) (o2:=4) (fz:=false) z7 yM (⟨w64 (yT * k.lo),w64 (yT * k.hi)⟩:Sn) (by kernel_rfl) (by kernel_rfl) rfl (by kernel_rfl) (by decide) ⟨by simp only [zS,big] <;> (omega),by simp only [big] <;> (omega)⟩)
    cases h75:decide ((((yM++[(⟨w64 (yT * k.lo),w64 (yT * k.hi)⟩:Sn)]).length:Nat):Int) > 2048) with
    | true =>
     have g75:=of_decide_eq_true h75
     intro xP
     exact zy ((ranges_products_3p4a_f_o1 k yM yT)++[.dec true]) (Ai h75 (Ai p1 (Ai h74 (Ai h73 trivial)))) (by kernel_rfl)
    | false =>
     have g75:=of_decide_eq_false h75
     intro xP
     exact zN (ks:=[1,5,7,8]) (st':=(sd40011 5 4 2 3 6 yT yM k yF)) ((ranges_products_3p4a_f_o1 k yM yT)++[.dec false]) (Ai h75 (Ai p1 (Ai h74 (Ai h73 trivial)))) (by kernel_rfl) (by (simp only [sd40011,go_sem,List.length_set,Nat.reduceAdd,Nat.reduceEqDiff,Nat.reduceLT,Nat.reduceLeDiff,bI2,zc.idsL,zc.renL,zc.snapAll,z7.idsL,z7.renL,z7.snapAll]) <;> rfl) (ih (yM++[(⟨w64 (yT * k.lo),w64 (yT * k.hi)⟩:Sn)]) (w64 (yT+1)) xP (by omega)) (by kernel_rfl)
  | false =>
   have g73:=of_decide_eq_false h73
   intro xP
   exact zy [.dec false] (Ai h73 trivial) (by kernel_rfl)
theorem ivt_ranges_products_3p4a (k:Sn) (yF:Int) (xo:Int):∀ (xj:Nat) (yM:List Sn) (yT:Int) (xP:yk k yF xo xj yM yT ≠ .out) (hw1:yM.length≤2048),iv_ranges_products_3p4 k yF xo (yk k yF xo xj yM yT):=by
 intro xj
 induction xj with
 | zero =>
  intro yM yT xP hw1
  exact absurd rfl xP
 | succ xj ih =>
  intro yM yT xP hw1
  unfold yk at xP ⊢
  revert xP
  cases h73:decide (yT≤yF) with
  | true =>
   have g73:=of_decide_eq_true h73
   cases h74:decide ((w64 (yT * (w64 (k.hi - k.lo)))) ≥ (w64 (k.lo - 1))) with
   | true =>
    have g74:=of_decide_eq_true h74
    intro xP
    exact hw1
   | false =>
    have g74:=of_decide_eq_false h74
    cases h75:decide ((((yM++[(⟨w64 (yT * k.lo),w64 (yT * k.hi)⟩:Sn)]).length:Nat):Int) > 2048) with
    | true =>
     have g75:=of_decide_eq_true h75
     intro xP
     exact hw1
    | false =>
     have g75:=of_decide_eq_false h75
     intro xP
     exact ih (yM++[(⟨w64 (yT * k.lo),w64 (yT * k.hi)⟩:Sn)]) (w64 (yT+1)) xP (by omega)
  | false =>
   have g73:=of_decide_eq_false h73
   intro xP
   exact hw1
theorem lp_ranges_products_3p4 (k:Sn) (yF:Int) (xo:Int):∀ (xj:Nat) (xP:yg k yF xo xj ≠ .out),(lim cfg).loop 72 lp72_3 ⟨54,[(1,I yF),(5,.lref 2 0 2 0),(7,.sl true [] 0 none),(8,I xo)],[(2,⟨[.agg [I k.lo,I k.hi]],2,false⟩)],3,2⟩=some (lr_ranges_products_3p4 k yF xo (yg k yF xo xj)):=by
 intro xj
 induction xj with
 | zero =>
  intro xP
  exact absurd rfl xP
 | succ xj ih =>
  intro xP
  unfold yg at xP ⊢
  revert xP
  cases h76:decide (xo≤yF) with
  | true =>
   have g76:=of_decide_eq_true h76
   cases h77:decide ((w64 (xo * (w64 (k.hi - k.lo)))) ≥ (w64 (k.lo - 1))) with
   | true =>
    have g77:=of_decide_eq_true h77
    intro xP
    exact zy [.dec true,.dec true] (Ai h77 (Ai h76 trivial)) (by kernel_rfl)
   | false =>
    have g77:=of_decide_eq_false h77
    intro xP
    exact po_turn [.dec true,.dec false,.dec false] (Ai (Eq.refl false) (Ai h77 (Ai h76 trivial))) (lp_ranges_products_3p4a k yF xo _ [(⟨w64 (xo * k.lo),w64 (xo * k.hi)⟩:Sn)] (w64 (xo+1)) xP (by simp only [List.length_append,List.length_cons,List.length_nil] at * <;> omega)) (by kernel_rfl)
  | false =>
   have g76:=of_decide_eq_false h76
   intro xP
   exact zy [.dec false] (Ai h76 trivial) (by kernel_rfl)
theorem ivt_ranges_products_3p4 (k:Sn) (yF:Int) (xo:Int):∀ (xj:Nat) (xP:yg k yF xo xj ≠ .out),iv_ranges_products_3p4 k yF xo (yg k yF xo xj):=by
 intro xj
 induction xj with
 | zero =>
  intro xP
  exact absurd rfl xP
 | succ xj ih =>
  intro xP
  unfold yg at xP ⊢
  revert xP
  cases h76:decide (xo≤yF) with
  | true =>
   have g76:=of_decide_eq_true h76
   cases h77:decide ((w64 (xo * (w64 (k.hi - k.lo)))) ≥ (w64 (k.lo - 1))) with
   | true =>
    have g77:=of_decide_eq_true h77
    intro xP
    exact trivial
   | false =>
    have g77:=of_decide_eq_false h77
    intro xP
    exact ivt_ranges_products_3p4a k yF xo _ [(⟨w64 (xo * k.lo),w64 (xo * k.hi)⟩:Sn)] (w64 (xo+1)) xP (by simp only [List.length_append,List.length_cons,List.length_nil] at * <;> omega)
  | false =>
   have g76:=of_decide_eq_false h76
   intro xP
   exact trivial

theorem ranges_products_3p4_ne' (k:Sn) (yF:Int) (xo:Int):∀ (n:Nat) (v:List Sn) (i:Int),2050≤v.length+n→v.length≤2048→yk k yF xo n v i ≠ .out
 | 0,v,i,h1,h2=>by omega
 | n+1,v,i,h1,h2=>by
  unfold yk
  simp only [Bool.cond_eq_ite]
  repeat' split
  all_goals simp only [decide_eq_true_eq] at *
  all_goals first | (intro h; cases h; done) | exact ranges_products_3p4_ne' k yF xo n _ _ (by simp only [List.length_append,List.length_cons,List.length_nil] at *; omega) (by simp only [List.length_append,List.length_cons,List.length_nil] at *; omega)
theorem yu (k:Sn) (yF:Int) (xo:Int):yg k yF xo 2051 ≠ .out:=by
 unfold yg
 simp only [Bool.cond_eq_ite]
 repeat' split
 all_goals first | (intro h; cases h; done) | exact ranges_products_3p4_ne' k yF xo 2050 _ _ (by simp) (by simp)

def sd40074 (ν0 ν1:Nat) (μ0:List Sn):St:=⟨40,[(25,B false),(4,.sl true [] 0 none),(22,.lsl ν0 0 μ0.length 2 none),(23,I ((μ0.length:Nat):Int)),(24,I ((μ0.length:Nat):Int))],[(ν0,⟨μ0.map Sn.D,2,false⟩)],ν1,ν0⟩

def sd40075 (ν0 ν1 ν2 ν3 ν4:Nat) (μ0:Nat) (μ1:Sn) (μ2:List Sn):St:=⟨40,[(24,I ((μ0+1:Nat):Int)),(38,I ((μ0+1:Nat):Int)),(4,.lsl ν0 0 1 2 none),(37,.lsl ν0 0 1 2 none),(36,.lsl ν1 0 1 2 (some 1)),(35,.agg [I (w64 (0 - μ1.hi)),I (w64 (0 - μ1.lo))]),(34,I (w64 (0 - μ1.lo))),(33,I μ1.lo),(32,.lref ν2 0 2 0),(31,I (w64 (0 - μ1.hi))),(30,I μ1.hi),(29,.lref ν2 0 2 1),(28,.sl true [] 0 none),(6,.lref ν2 0 2 0),(27,.agg [I μ1.lo,I μ1.hi]),(26,.lref ν3 μ0 2 0),(25,B true),(4,.sl true [] 0 none),(22,.lsl ν3 0 μ2.length 2 none),(23,I ((μ2.length:Nat):Int)),(24,I ((μ0:Nat):Int))],[(ν3,⟨μ2.map Sn.D,2,false⟩),(ν2,⟨[.agg [I μ1.lo,I μ1.hi]],2,false⟩),(ν1,⟨[.agg [I (w64 (0 - μ1.hi)),I (w64 (0 - μ1.lo))]],2,false⟩),(ν0,⟨[.agg [I (w64 (0 - μ1.hi)),I (w64 (0 - μ1.lo))]],2,false⟩)],ν4,ν3⟩

inductive LR_ranges_Times_1_3p2 where
 | x0 (yG:List Sn)
 | x1
instance:Inhabited LR_ranges_Times_1_3p2:=⟨.x0 default⟩
def yo:List Sn→(List Sn)→LR_ranges_Times_1_3p2
 | [],yG=>.x0 yG
 | xe::yW,yG =>
  yo yW (yG++[(⟨w64 (0 - xe.hi),w64 (0 - xe.lo)⟩:Sn)])
def y8:List Sn→LR_ranges_Times_1_3p2
 | []=>.x1
 | xe::yW =>
  yo yW [(⟨w64 (0 - xe.hi),w64 (0 - xe.lo)⟩:Sn)]
def lr_ranges_Times_1_3p2 (x9:List Sn):LR_ranges_Times_1_3p2→Exit × St
 | .x0 yG=>((.exit 0),(sd40013 0 1 2 yG x9))
 | .x1=>((.exit 0),(sd40074 0 1 x9))
def iv_ranges_Times_1_3p2 (x9:List Sn):LR_ranges_Times_1_3p2→Prop
 | .x0 yG=>(yG.length≤2049+x9.length)
 | .x1=>True
theorem lp_ranges_Times_1_3p2a (x9:List Sn):∀ (yW:List Sn) (xw:Nat) (yG:List Sn) (yZ:x9.drop xw=yW) (xL:xw≤x9.length) (hl49:x9.length≤2049) (hg3p2_va3p2_0:yG.length≤2049+xw) (hL3p2:x9.length≤1099511627776),(lim cfg).loop 71 lp71_3 ⟨40,[(4,.lsl 0 0 yG.length 2 none),(22,.lsl 1 0 x9.length 2 none),(23,I ((x9.length:Nat):Int)),(24,I ((xw:Nat):Int))],[(0,⟨yG.map Sn.D,2,false⟩),(1,⟨x9.map Sn.D,2,false⟩)],2,0⟩=some (lr_ranges_Times_1_3p2 x9 (yo yW yG)):=by
 intro yW
 induction yW with
 | nil =>
  intro xw yG yZ xL hl49 hg3p2_va3p2_0 hL3p2
  unfold yo
  obtain rfl:xw=x9.length:=nil_eq yZ xL
  exact zy [.dec false] (Ai (lt_no yZ) trivial) (by kernel_rfl)
 | cons xe yW ih =>
  intro xw yG yZ xL hl49 hg3p2_va3p2_0 hL3p2
  have hlt3p2:=zg yZ
  unfold yo
  exact zN (ks:=[4,22,23,24]) (st':=(sd40014 4 3 2 0 1 5 xw yG xe x9)) [.dec true,.op (some 26) ⟨.lref 1 xw 2 0,[],[],2⟩,.op (some 27) ⟨.agg [I xe.lo,I xe.hi],[],[1],2⟩,.op (some 37) ⟨.lsl 4 0 ((yG++[(⟨w64 (0 - xe.hi),w64 (0 - xe.lo)⟩:Sn)]).length) 2 none,[(0,none),(4,some ⟨(yG++[(⟨w64 (0 - xe.hi),w64 (0 - xe.lo)⟩:Sn)]).map Sn.D,2,false⟩)],[0,3],5⟩,.rw 38 (I ((xw+1:Nat):Int))] (Ai (ya (i:=xw) (by have:=zg yZ; omega)) (Ai (app_row (f:=Sn.D) (te:=zS) (gO:=zt [(0,⟨yG.map Sn.D,2,false⟩),(1,⟨x9.map Sn.D,2,false⟩),(2,⟨[.agg [I xe.lo,I xe.hi]],2,false⟩),(3,⟨[.agg [I (w64 (0 - xe.hi)),I (w64 (0 - xe.lo))]],2,false⟩)]) (nxt:=4) (o:=0) (o2:=3) (fz:=false) z7 yG (⟨w64 (0 - xe.hi),w64 (0 - xe.lo)⟩:Sn) (by kernel_rfl) (by kernel_rfl) rfl (by kernel_rfl) (by decide) ⟨by simp only [zS,big] <;> (omega),by simp only [big] <;> (omega)⟩) (Ai (load_row (C:=cfg) (objs:=[(0,⟨yG.map Sn.D,2,false⟩),(1,⟨x9.map Sn.D,2,false⟩)]) (nxt:=2) (t:=25) (ty:=zS) (o:=1) (n:=xw) (sz:=2) (sub:=0) (ob:=⟨x9.map Sn.D,2,false⟩) (e:=Sn.D xe) (d:=.agg [I xe.lo,I xe.hi]) (by kernel_rfl) (by kernel_rfl) rfl (row_at (f:=Sn.D) yZ) (by kernel_rfl)) (Ai (idx_row (C:=cfg) (nxt:=2) (t:=22) (ty:=ty22) (te:=zS) (e:=25) (o:=1) (len:=x9.length) (sz:=2) (cap:=none) (i:=((xw:Nat):Int)) (by kernel_rfl) rfl (by kernel_rfl) rfl (by omega) (by omega)) (Ai (yb yZ) trivial))))) (by kernel_rfl) (by (simp only [sd40014,go_sem,List.length_set,Nat.reduceAdd,Nat.reduceEqDiff,Nat.reduceLT,Nat.reduceLeDiff,bI2,zc.idsL,zc.renL,zc.snapAll,z7.idsL,z7.renL,z7.snapAll]) <;> rfl) (ih (xw+1) (yG++[(⟨w64 (0 - xe.hi),w64 (0 - xe.lo)⟩:Sn)]) (zh yZ) (zg yZ) (by omega) (by simp only [List.length_append,List.length_cons,List.length_nil] at * <;> omega) (by omega)) (by kernel_rfl)
theorem ivt_ranges_Times_1_3p2a (x9:List Sn):∀ (yW:List Sn) (xw:Nat) (yG:List Sn) (yZ:x9.drop xw=yW) (xL:xw≤x9.length) (hl49:x9.length≤2049) (hg3p2_va3p2_0:yG.length≤2049+xw) (hL3p2:x9.length≤1099511627776),iv_ranges_Times_1_3p2 x9 (yo yW yG):=by
 intro yW
 induction yW with
 | nil =>
  intro xw yG yZ xL hl49 hg3p2_va3p2_0 hL3p2
  unfold yo
  obtain rfl:xw=x9.length:=nil_eq yZ xL
  exact hg3p2_va3p2_0
 | cons xe yW ih =>
  intro xw yG yZ xL hl49 hg3p2_va3p2_0 hL3p2
  have hlt3p2:=zg yZ
  unfold yo
  exact ih (xw+1) (yG++[(⟨w64 (0 - xe.hi),w64 (0 - xe.lo)⟩:Sn)]) (zh yZ) (zg yZ) (by omega) (by simp only [List.length_append,List.length_cons,List.length_nil] at * <;> omega) (by omega)
theorem lp_ranges_Times_1_3p2 (x9:List Sn):∀ (yW:List Sn) (xw:Nat) (yZ:x9.drop xw=yW) (xL:xw≤x9.length) (hl49:x9.length≤2049) (hL3p2:x9.length≤1099511627776),(lim cfg).loop 71 lp71_3 ⟨40,[(4,.sl true [] 0 none),(22,.lsl 0 0 x9.length 2 none),(23,I ((x9.length:Nat):Int)),(24,I ((xw:Nat):Int))],[(0,⟨x9.map Sn.D,2,false⟩)],1,0⟩=some (lr_ranges_Times_1_3p2 x9 (y8 yW)):=by
 intro yW
 induction yW with
 | nil =>
  intro xw yZ xL hl49 hL3p2
  unfold y8
  obtain rfl:xw=x9.length:=nil_eq yZ xL
  exact zy [.dec false] (Ai (lt_no yZ) trivial) (by kernel_rfl)
 | cons xe yW ih =>
  intro xw yZ xL hl49 hL3p2
  have hlt3p2:=zg yZ
  unfold y8
  dsimp only
  exact zN (ks:=[4,22,23,24]) (st':=(sd40075 3 2 1 0 4 xw xe x9)) [.dec true,.op (some 26) ⟨.lref 0 xw 2 0,[],[],1⟩,.op (some 27) ⟨.agg [I xe.lo,I xe.hi],[],[0],1⟩,.rw 38 (I ((xw+1:Nat):Int))] (Ai (ya (i:=xw) (by have:=zg yZ; omega)) (Ai (load_row (C:=cfg) (objs:=[(0,⟨x9.map Sn.D,2,false⟩)]) (nxt:=1) (t:=25) (ty:=zS) (o:=0) (n:=xw) (sz:=2) (sub:=0) (ob:=⟨x9.map Sn.D,2,false⟩) (e:=Sn.D xe) (d:=.agg [I xe.lo,I xe.hi]) (by kernel_rfl) (by kernel_rfl) rfl (row_at (f:=Sn.D) yZ) (by kernel_rfl)) (Ai (idx_row (C:=cfg) (nxt:=1) (t:=22) (ty:=ty22) (te:=zS) (e:=25) (o:=0) (len:=x9.length) (sz:=2) (cap:=none) (i:=((xw:Nat):Int)) (by kernel_rfl) rfl (by kernel_rfl) rfl (by omega) (by omega)) (Ai (yb yZ) trivial)))) (by kernel_rfl) (by (simp only [sd40075,go_sem,List.length_set,Nat.reduceAdd,Nat.reduceEqDiff,Nat.reduceLT,Nat.reduceLeDiff,bI2,zc.idsL,zc.renL,zc.snapAll,z7.idsL,z7.renL,z7.snapAll]) <;> rfl) (lp_ranges_Times_1_3p2a x9 _ (xw+1) [(⟨w64 (0 - xe.hi),w64 (0 - xe.lo)⟩:Sn)] (zh yZ) (zg yZ) (by omega) (by simp only [List.length_append,List.length_cons,List.length_nil] at * <;> omega) (by omega)) (by kernel_rfl)
theorem ivt_ranges_Times_1_3p2 (x9:List Sn):∀ (yW:List Sn) (xw:Nat) (yZ:x9.drop xw=yW) (xL:xw≤x9.length) (hl49:x9.length≤2049) (hL3p2:x9.length≤1099511627776),iv_ranges_Times_1_3p2 x9 (y8 yW):=by
 intro yW
 induction yW with
 | nil =>
  intro xw yZ xL hl49 hL3p2
  unfold y8
  obtain rfl:xw=x9.length:=nil_eq yZ xL
  exact trivial
 | cons xe yW ih =>
  intro xw yZ xL hl49 hL3p2
  have hlt3p2:=zg yZ
  unfold y8
  dsimp only
  exact ivt_ranges_Times_1_3p2a x9 _ (xw+1) [(⟨w64 (0 - xe.hi),w64 (0 - xe.lo)⟩:Sn)] (zh yZ) (zg yZ) (by omega) (by simp only [List.length_append,List.length_cons,List.length_nil] at * <;> omega) (by omega)

def z8 (x:Sn) (k:Sn):(GS Sn) :=
 match yz x k (zl x.lo 0) 2051 with
 | .x0 yP yS =>
  match zR k (w64 (0 - x.lo)) (zl (w64 (0 - x.hi)) 0) 2051 with
  | .x0 yO yN =>
   match zD (yO++[(⟨w64 (yN * k.lo),w64 ((w64 (0 - x.lo)) * k.hi)⟩:Sn)]) (yP++[(⟨w64 (yS * k.lo),w64 (x.hi * k.hi)⟩:Sn)]) with
   | .x0 xp =>
    GS.some xp
  | .x1 yO yN =>
   match zD (yO++[(⟨w64 (yN * k.lo),w64 (yN * k.hi)⟩:Sn)]) (yP++[(⟨w64 (yS * k.lo),w64 (x.hi * k.hi)⟩:Sn)]) with
   | .x0 xp =>
    GS.some xp
  | .x2 yO yN =>
   match zD yO (yP++[(⟨w64 (yS * k.lo),w64 (x.hi * k.hi)⟩:Sn)]) with
   | .x0 xp =>
    GS.some xp
  | .x3 =>
   GS.some ((yP++[(⟨w64 (yS * k.lo),w64 (x.hi * k.hi)⟩:Sn)])++[(⟨w64 (0 - (w64 ((w64 (0 - x.lo)) * k.hi))),w64 (0 - (w64 ((zl (w64 (0 - x.hi)) 0) * k.lo)))⟩:Sn)])
  | .x4 =>
   GS.some (yP++[(⟨w64 (yS * k.lo),w64 (x.hi * k.hi)⟩:Sn)])
  | .out =>
   default
 | .x1 yP yS =>
  match zR k (w64 (0 - x.lo)) (zl (w64 (0 - x.hi)) 0) 2051 with
  | .x0 yO yN =>
   match zD (yO++[(⟨w64 (yN * k.lo),w64 ((w64 (0 - x.lo)) * k.hi)⟩:Sn)]) (yP++[(⟨w64 (yS * k.lo),w64 (yS * k.hi)⟩:Sn)]) with
   | .x0 xp =>
    GS.some xp
  | .x1 yO yN =>
   match zD (yO++[(⟨w64 (yN * k.lo),w64 (yN * k.hi)⟩:Sn)]) (yP++[(⟨w64 (yS * k.lo),w64 (yS * k.hi)⟩:Sn)]) with
   | .x0 xp =>
    GS.some xp
  | .x2 yO yN =>
   match zD yO (yP++[(⟨w64 (yS * k.lo),w64 (yS * k.hi)⟩:Sn)]) with
   | .x0 xp =>
    GS.some xp
  | .x3 =>
   GS.some ((yP++[(⟨w64 (yS * k.lo),w64 (yS * k.hi)⟩:Sn)])++[(⟨w64 (0 - (w64 ((w64 (0 - x.lo)) * k.hi))),w64 (0 - (w64 ((zl (w64 (0 - x.hi)) 0) * k.lo)))⟩:Sn)])
  | .x4 =>
   GS.some (yP++[(⟨w64 (yS * k.lo),w64 (yS * k.hi)⟩:Sn)])
  | .out =>
   default
 | .x2 yP yS =>
  match ye k (w64 (0 - x.lo)) (zl (w64 (0 - x.hi)) 0) 2051 with
  | .x0 yG yU =>
   match zD (yG++[(⟨w64 (yU * k.lo),w64 ((w64 (0 - x.lo)) * k.hi)⟩:Sn)]) yP with
   | .x0 xp =>
    GS.some xp
  | .x1 yG yU =>
   match zD (yG++[(⟨w64 (yU * k.lo),w64 (yU * k.hi)⟩:Sn)]) yP with
   | .x0 xp =>
    GS.some xp
  | .x2 yG yU =>
   match zD yG yP with
   | .x0 xp =>
    GS.some xp
  | .x3 =>
   GS.some (yP++[(⟨w64 (0 - (w64 ((w64 (0 - x.lo)) * k.hi))),w64 (0 - (w64 ((zl (w64 (0 - x.hi)) 0) * k.lo)))⟩:Sn)])
  | .x4 =>
   GS.some yP
  | .out =>
   default
 | .x3 =>
  match yf k (w64 (0 - x.lo)) (zl (w64 (0 - x.hi)) 0) 2051 with
  | .x0 yI yV =>
   match zZ (yI++[(⟨w64 (yV * k.lo),w64 ((w64 (0 - x.lo)) * k.hi)⟩:Sn)]) [(⟨(w64 ((zl x.lo 0) * k.lo)),(w64 (x.hi * k.hi))⟩:Sn)] with
   | .x0 xv =>
    GS.some xv
  | .x1 yI yV =>
   match zZ (yI++[(⟨w64 (yV * k.lo),w64 (yV * k.hi)⟩:Sn)]) [(⟨(w64 ((zl x.lo 0) * k.lo)),(w64 (x.hi * k.hi))⟩:Sn)] with
   | .x0 xv =>
    GS.some xv
  | .x2 yI yV =>
   match zZ yI [(⟨(w64 ((zl x.lo 0) * k.lo)),(w64 (x.hi * k.hi))⟩:Sn)] with
   | .x0 xv =>
    GS.some xv
  | .x3 =>
   GS.some [(⟨w64 ((zl x.lo 0) * k.lo),w64 (x.hi * k.hi)⟩:Sn),(⟨w64 (0 - (w64 ((w64 (0 - x.lo)) * k.hi))),w64 (0 - (w64 ((zl (w64 (0 - x.hi)) 0) * k.lo)))⟩:Sn)]
  | .x4 =>
   GS.some [(⟨w64 ((zl x.lo 0) * k.lo),w64 (x.hi * k.hi)⟩:Sn)]
  | .out =>
   default
 | .x4 =>
  match yg k (w64 (0 - x.lo)) (zl (w64 (0 - x.hi)) 0) 2051 with
  | .x0 yM yT =>
   match y8 (yM++[(⟨w64 (yT * k.lo),w64 ((w64 (0 - x.lo)) * k.hi)⟩:Sn)]) with
   | .x0 yG =>
    GS.some yG
   | .x1 =>
    GS.nil
  | .x1 yM yT =>
   match y8 (yM++[(⟨w64 (yT * k.lo),w64 (yT * k.hi)⟩:Sn)]) with
   | .x0 yG =>
    GS.some yG
   | .x1 =>
    GS.nil
  | .x2 yM yT =>
   match y8 yM with
   | .x0 yG =>
    GS.some yG
   | .x1 =>
    GS.nil
  | .x3 =>
   GS.some [(⟨w64 (0 - (w64 ((w64 (0 - x.lo)) * k.hi))),w64 (0 - (w64 ((zl (w64 (0 - x.hi)) 0) * k.lo)))⟩:Sn)]
  | .x4 =>
   GS.nil
  | .out =>
   default
 | .out =>
  default

def ranges_Times_1_o1 (x:Sn) (k:Sn) (yP:List Sn) (yS:Int):List Ora:=[.inl (.lsl 4 0 ((yP++[(⟨w64 (yS * k.lo),w64 (x.hi * k.hi)⟩:Sn)]).length) 2 none) [(1,⟨[.agg [I k.lo,I k.hi]],2,false⟩),(3,⟨[.agg [I (w64 (yS * k.lo)),I (w64 (x.hi * k.hi))]],2,false⟩),(4,⟨(yP++[(⟨w64 (yS * k.lo),w64 (x.hi * k.hi)⟩:Sn)]).map Sn.D,2,false⟩)] 5]

def sd40016 (ν0 ν1 ν2:Nat) (μ0:List Sn) (μ1:Int) (μ2:Sn) (μ3:Sn) (μ4:List Sn) (μ5:Int):St:=⟨40,[(4,.lsl ν0 0 ((μ0++[(⟨w64 (μ1 * μ2.lo),w64 (μ3.hi * μ2.hi)⟩:Sn)]).length) 2 none),(22,.lsl ν1 0 ((μ4++[(⟨w64 (μ5 * μ2.lo),w64 ((w64 (0 - μ3.lo)) * μ2.hi)⟩:Sn)]).length) 2 none),(23,I (((μ4++[(⟨w64 (μ5 * μ2.lo),w64 ((w64 (0 - μ3.lo)) * μ2.hi)⟩:Sn)]).length:Nat):Int)),(24,I 0)],[(ν0,⟨(μ0++[(⟨w64 (μ1 * μ2.lo),w64 (μ3.hi * μ2.hi)⟩:Sn)]).map Sn.D,2,false⟩),(ν1,⟨(μ4++[(⟨w64 (μ5 * μ2.lo),w64 ((w64 (0 - μ3.lo)) * μ2.hi)⟩:Sn)]).map Sn.D,2,false⟩)],ν2,ν0⟩

def sd40017 (ν0 ν1 ν2:Nat) (μ0:List Sn) (μ1:List Sn) (μ2:Int) (μ3:Sn) (μ4:Sn):St:=⟨40,[(25,B false),(4,.lsl ν0 0 μ0.length 2 none),(22,.lsl ν1 0 ((μ1++[(⟨w64 (μ2 * μ3.lo),w64 ((w64 (0 - μ4.lo)) * μ3.hi)⟩:Sn)]).length) 2 none),(23,I (((μ1++[(⟨w64 (μ2 * μ3.lo),w64 ((w64 (0 - μ4.lo)) * μ3.hi)⟩:Sn)]).length:Nat):Int)),(24,I (((μ1++[(⟨w64 (μ2 * μ3.lo),w64 ((w64 (0 - μ4.lo)) * μ3.hi)⟩:Sn)]).length:Nat):Int))],[(ν0,⟨μ0.map Sn.D,2,false⟩),(ν1,⟨(μ1++[(⟨w64 (μ2 * μ3.lo),w64 ((w64 (0 - μ4.lo)) * μ3.hi)⟩:Sn)]).map Sn.D,2,false⟩)],ν2,ν0⟩

def ranges_Times_1_o2 (x:Sn) (k:Sn) (yP:List Sn) (yS:Int) (yO:List Sn) (yN:Int) (xp:List Sn):List Ora:=[.inl (.lsl 8 0 ((yO++[(⟨w64 (yN * k.lo),w64 ((w64 (0 - x.lo)) * k.hi)⟩:Sn)]).length) 2 none) [(5,⟨[.agg [I k.lo,I k.hi]],2,false⟩),(7,⟨[.agg [I (w64 (yN * k.lo)),I (w64 ((w64 (0 - x.lo)) * k.hi))]],2,false⟩),(8,⟨(yO++[(⟨w64 (yN * k.lo),w64 ((w64 (0 - x.lo)) * k.hi)⟩:Sn)]).map Sn.D,2,false⟩)] 9,.gloop (sd40016 0 1 2 yP yS k x yO yN) (.exit 0) (sd40017 0 1 2 xp yO yN k x)]

def sd40020 (ν0 ν1 ν2:Nat) (μ0:List Sn) (μ1:Int) (μ2:Sn) (μ3:Sn) (μ4:List Sn) (μ5:Int):St:=⟨40,[(4,.lsl ν0 0 ((μ0++[(⟨w64 (μ1 * μ2.lo),w64 (μ3.hi * μ2.hi)⟩:Sn)]).length) 2 none),(22,.lsl ν1 0 ((μ4++[(⟨w64 (μ5 * μ2.lo),w64 (μ5 * μ2.hi)⟩:Sn)]).length) 2 none),(23,I (((μ4++[(⟨w64 (μ5 * μ2.lo),w64 (μ5 * μ2.hi)⟩:Sn)]).length:Nat):Int)),(24,I 0)],[(ν0,⟨(μ0++[(⟨w64 (μ1 * μ2.lo),w64 (μ3.hi * μ2.hi)⟩:Sn)]).map Sn.D,2,false⟩),(ν1,⟨(μ4++[(⟨w64 (μ5 * μ2.lo),w64 (μ5 * μ2.hi)⟩:Sn)]).map Sn.D,2,false⟩)],ν2,ν0⟩

def sd40021 (ν0 ν1 ν2:Nat) (μ0:List Sn) (μ1:List Sn) (μ2:Int) (μ3:Sn):St:=⟨40,[(25,B false),(4,.lsl ν0 0 μ0.length 2 none),(22,.lsl ν1 0 ((μ1++[(⟨w64 (μ2 * μ3.lo),w64 (μ2 * μ3.hi)⟩:Sn)]).length) 2 none),(23,I (((μ1++[(⟨w64 (μ2 * μ3.lo),w64 (μ2 * μ3.hi)⟩:Sn)]).length:Nat):Int)),(24,I (((μ1++[(⟨w64 (μ2 * μ3.lo),w64 (μ2 * μ3.hi)⟩:Sn)]).length:Nat):Int))],[(ν0,⟨μ0.map Sn.D,2,false⟩),(ν1,⟨(μ1++[(⟨w64 (μ2 * μ3.lo),w64 (μ2 * μ3.hi)⟩:Sn)]).map Sn.D,2,false⟩)],ν2,ν0⟩

def ranges_Times_1_o3 (x:Sn) (k:Sn) (yP:List Sn) (yS:Int) (yO:List Sn) (yN:Int) (xp:List Sn):List Ora:=[.inl (.lsl 8 0 ((yO++[(⟨w64 (yN * k.lo),w64 (yN * k.hi)⟩:Sn)]).length) 2 none) [(5,⟨[.agg [I k.lo,I k.hi]],2,false⟩),(7,⟨[.agg [I (w64 (yN * k.lo)),I (w64 (yN * k.hi))]],2,false⟩),(8,⟨(yO++[(⟨w64 (yN * k.lo),w64 (yN * k.hi)⟩:Sn)]).map Sn.D,2,false⟩)] 9,.gloop (sd40020 0 1 2 yP yS k x yO yN) (.exit 0) (sd40021 0 1 2 xp yO yN k)]

def sd40024 (ν0 ν1 ν2:Nat) (μ0:List Sn) (μ1:Int) (μ2:Sn) (μ3:Sn) (μ4:List Sn):St:=⟨40,[(4,.lsl ν0 0 ((μ0++[(⟨w64 (μ1 * μ2.lo),w64 (μ3.hi * μ2.hi)⟩:Sn)]).length) 2 none),(22,.lsl ν1 0 μ4.length 2 none),(23,I ((μ4.length:Nat):Int)),(24,I 0)],[(ν0,⟨(μ0++[(⟨w64 (μ1 * μ2.lo),w64 (μ3.hi * μ2.hi)⟩:Sn)]).map Sn.D,2,false⟩),(ν1,⟨μ4.map Sn.D,2,false⟩)],ν2,ν0⟩

def ranges_Times_1_o4 (x:Sn) (k:Sn) (yP:List Sn) (yS:Int) (yO:List Sn) (xp:List Sn):List Ora:=[.inl (.lsl 6 0 yO.length 2 none) [(5,⟨[.agg [I k.lo,I k.hi]],2,false⟩),(6,⟨yO.map Sn.D,2,false⟩)] 7,.gloop (sd40024 0 1 2 yP yS k x yO) (.exit 0) (sd40013 0 1 2 xp yO)]

def ranges_Times_1_o5 (k:Sn) (yP:List Sn) (yS:Int):List Ora:=[.inl (.lsl 4 0 ((yP++[(⟨w64 (yS * k.lo),w64 (yS * k.hi)⟩:Sn)]).length) 2 none) [(1,⟨[.agg [I k.lo,I k.hi]],2,false⟩),(3,⟨[.agg [I (w64 (yS * k.lo)),I (w64 (yS * k.hi))]],2,false⟩),(4,⟨(yP++[(⟨w64 (yS * k.lo),w64 (yS * k.hi)⟩:Sn)]).map Sn.D,2,false⟩)] 5]

def sd40036 (ν0 ν1 ν2:Nat) (μ0:List Sn) (μ1:Int) (μ2:Sn) (μ3:List Sn) (μ4:Int) (μ5:Sn):St:=⟨40,[(4,.lsl ν0 0 ((μ0++[(⟨w64 (μ1 * μ2.lo),w64 (μ1 * μ2.hi)⟩:Sn)]).length) 2 none),(22,.lsl ν1 0 ((μ3++[(⟨w64 (μ4 * μ2.lo),w64 ((w64 (0 - μ5.lo)) * μ2.hi)⟩:Sn)]).length) 2 none),(23,I (((μ3++[(⟨w64 (μ4 * μ2.lo),w64 ((w64 (0 - μ5.lo)) * μ2.hi)⟩:Sn)]).length:Nat):Int)),(24,I 0)],[(ν0,⟨(μ0++[(⟨w64 (μ1 * μ2.lo),w64 (μ1 * μ2.hi)⟩:Sn)]).map Sn.D,2,false⟩),(ν1,⟨(μ3++[(⟨w64 (μ4 * μ2.lo),w64 ((w64 (0 - μ5.lo)) * μ2.hi)⟩:Sn)]).map Sn.D,2,false⟩)],ν2,ν0⟩

def ranges_Times_1_o6 (x:Sn) (k:Sn) (yP:List Sn) (yS:Int) (yO:List Sn) (yN:Int) (xp:List Sn):List Ora:=[.inl (.lsl 8 0 ((yO++[(⟨w64 (yN * k.lo),w64 ((w64 (0 - x.lo)) * k.hi)⟩:Sn)]).length) 2 none) [(5,⟨[.agg [I k.lo,I k.hi]],2,false⟩),(7,⟨[.agg [I (w64 (yN * k.lo)),I (w64 ((w64 (0 - x.lo)) * k.hi))]],2,false⟩),(8,⟨(yO++[(⟨w64 (yN * k.lo),w64 ((w64 (0 - x.lo)) * k.hi)⟩:Sn)]).map Sn.D,2,false⟩)] 9,.gloop (sd40036 0 1 2 yP yS k yO yN x) (.exit 0) (sd40017 0 1 2 xp yO yN k x)]

def sd40038 (ν0 ν1 ν2:Nat) (μ0:List Sn) (μ1:Int) (μ2:Sn) (μ3:List Sn) (μ4:Int):St:=⟨40,[(4,.lsl ν0 0 ((μ0++[(⟨w64 (μ1 * μ2.lo),w64 (μ1 * μ2.hi)⟩:Sn)]).length) 2 none),(22,.lsl ν1 0 ((μ3++[(⟨w64 (μ4 * μ2.lo),w64 (μ4 * μ2.hi)⟩:Sn)]).length) 2 none),(23,I (((μ3++[(⟨w64 (μ4 * μ2.lo),w64 (μ4 * μ2.hi)⟩:Sn)]).length:Nat):Int)),(24,I 0)],[(ν0,⟨(μ0++[(⟨w64 (μ1 * μ2.lo),w64 (μ1 * μ2.hi)⟩:Sn)]).map Sn.D,2,false⟩),(ν1,⟨(μ3++[(⟨w64 (μ4 * μ2.lo),w64 (μ4 * μ2.hi)⟩:Sn)]).map Sn.D,2,false⟩)],ν2,ν0⟩

def ranges_Times_1_o7 (k:Sn) (yP:List Sn) (yS:Int) (yO:List Sn) (yN:Int) (xp:List Sn):List Ora:=[.inl (.lsl 8 0 ((yO++[(⟨w64 (yN * k.lo),w64 (yN * k.hi)⟩:Sn)]).length) 2 none) [(5,⟨[.agg [I k.lo,I k.hi]],2,false⟩),(7,⟨[.agg [I (w64 (yN * k.lo)),I (w64 (yN * k.hi))]],2,false⟩),(8,⟨(yO++[(⟨w64 (yN * k.lo),w64 (yN * k.hi)⟩:Sn)]).map Sn.D,2,false⟩)] 9,.gloop (sd40038 0 1 2 yP yS k yO yN) (.exit 0) (sd40021 0 1 2 xp yO yN k)]

def sd40040 (ν0 ν1 ν2:Nat) (μ0:List Sn) (μ1:Int) (μ2:Sn) (μ3:List Sn):St:=⟨40,[(4,.lsl ν0 0 ((μ0++[(⟨w64 (μ1 * μ2.lo),w64 (μ1 * μ2.hi)⟩:Sn)]).length) 2 none),(22,.lsl ν1 0 μ3.length 2 none),(23,I ((μ3.length:Nat):Int)),(24,I 0)],[(ν0,⟨(μ0++[(⟨w64 (μ1 * μ2.lo),w64 (μ1 * μ2.hi)⟩:Sn)]).map Sn.D,2,false⟩),(ν1,⟨μ3.map Sn.D,2,false⟩)],ν2,ν0⟩

def ranges_Times_1_o8 (k:Sn) (yP:List Sn) (yS:Int) (yO:List Sn) (xp:List Sn):List Ora:=[.inl (.lsl 6 0 yO.length 2 none) [(5,⟨[.agg [I k.lo,I k.hi]],2,false⟩),(6,⟨yO.map Sn.D,2,false⟩)] 7,.gloop (sd40040 0 1 2 yP yS k yO) (.exit 0) (sd40013 0 1 2 xp yO)]

def sd40050 (ν0 ν1 ν2:Nat) (μ0:List Sn) (μ1:List Sn) (μ2:Int) (μ3:Sn) (μ4:Sn):St:=⟨40,[(4,.lsl ν0 0 μ0.length 2 none),(22,.lsl ν1 0 ((μ1++[(⟨w64 (μ2 * μ3.lo),w64 ((w64 (0 - μ4.lo)) * μ3.hi)⟩:Sn)]).length) 2 none),(23,I (((μ1++[(⟨w64 (μ2 * μ3.lo),w64 ((w64 (0 - μ4.lo)) * μ3.hi)⟩:Sn)]).length:Nat):Int)),(24,I 0)],[(ν0,⟨μ0.map Sn.D,2,false⟩),(ν1,⟨(μ1++[(⟨w64 (μ2 * μ3.lo),w64 ((w64 (0 - μ4.lo)) * μ3.hi)⟩:Sn)]).map Sn.D,2,false⟩)],ν2,ν0⟩

def ranges_Times_1_o9 (x:Sn) (k:Sn) (yP:List Sn) (xp:List Sn) (yG:List Sn) (yU:Int):List Ora:=[.inl (.lsl 2 0 yP.length 2 none) [(1,⟨[.agg [I k.lo,I k.hi]],2,false⟩),(2,⟨yP.map Sn.D,2,false⟩)] 3,.inl (.lsl 6 0 ((yG++[(⟨w64 (yU * k.lo),w64 ((w64 (0 - x.lo)) * k.hi)⟩:Sn)]).length) 2 none) [(3,⟨[.agg [I k.lo,I k.hi]],2,false⟩),(5,⟨[.agg [I (w64 (yU * k.lo)),I (w64 ((w64 (0 - x.lo)) * k.hi))]],2,false⟩),(6,⟨(yG++[(⟨w64 (yU * k.lo),w64 ((w64 (0 - x.lo)) * k.hi)⟩:Sn)]).map Sn.D,2,false⟩)] 7,.gloop (sd40050 0 1 2 yP yG yU k x) (.exit 0) (sd40017 0 1 2 xp yG yU k x)]

def sd40052 (ν0 ν1 ν2:Nat) (μ0:List Sn) (μ1:List Sn) (μ2:Int) (μ3:Sn):St:=⟨40,[(4,.lsl ν0 0 μ0.length 2 none),(22,.lsl ν1 0 ((μ1++[(⟨w64 (μ2 * μ3.lo),w64 (μ2 * μ3.hi)⟩:Sn)]).length) 2 none),(23,I (((μ1++[(⟨w64 (μ2 * μ3.lo),w64 (μ2 * μ3.hi)⟩:Sn)]).length:Nat):Int)),(24,I 0)],[(ν0,⟨μ0.map Sn.D,2,false⟩),(ν1,⟨(μ1++[(⟨w64 (μ2 * μ3.lo),w64 (μ2 * μ3.hi)⟩:Sn)]).map Sn.D,2,false⟩)],ν2,ν0⟩

def ranges_Times_1_o10 (k:Sn) (yP:List Sn) (xp:List Sn) (yG:List Sn) (yU:Int):List Ora:=[.inl (.lsl 2 0 yP.length 2 none) [(1,⟨[.agg [I k.lo,I k.hi]],2,false⟩),(2,⟨yP.map Sn.D,2,false⟩)] 3,.inl (.lsl 6 0 ((yG++[(⟨w64 (yU * k.lo),w64 (yU * k.hi)⟩:Sn)]).length) 2 none) [(3,⟨[.agg [I k.lo,I k.hi]],2,false⟩),(5,⟨[.agg [I (w64 (yU * k.lo)),I (w64 (yU * k.hi))]],2,false⟩),(6,⟨(yG++[(⟨w64 (yU * k.lo),w64 (yU * k.hi)⟩:Sn)]).map Sn.D,2,false⟩)] 7,.gloop (sd40052 0 1 2 yP yG yU k) (.exit 0) (sd40021 0 1 2 xp yG yU k)]

def sd40054 (ν0 ν1 ν2:Nat) (μ0:List Sn) (μ1:List Sn):St:=⟨40,[(4,.lsl ν0 0 μ0.length 2 none),(22,.lsl ν1 0 μ1.length 2 none),(23,I ((μ1.length:Nat):Int)),(24,I 0)],[(ν0,⟨μ0.map Sn.D,2,false⟩),(ν1,⟨μ1.map Sn.D,2,false⟩)],ν2,ν0⟩

def ranges_Times_1_o11 (k:Sn) (yP:List Sn) (xp:List Sn) (yG:List Sn):List Ora:=[.inl (.lsl 2 0 yP.length 2 none) [(1,⟨[.agg [I k.lo,I k.hi]],2,false⟩),(2,⟨yP.map Sn.D,2,false⟩)] 3,.inl (.lsl 4 0 yG.length 2 none) [(3,⟨[.agg [I k.lo,I k.hi]],2,false⟩),(4,⟨yG.map Sn.D,2,false⟩)] 5,.gloop (sd40054 0 1 2 yP yG) (.exit 0) (sd40013 0 1 2 xp yG)]

def ranges_Times_1_o12 (x:Sn) (k:Sn):List Ora:=[.inl (.lsl 3 0 1 2 none) [(1,⟨[.agg [I k.lo,I k.hi]],2,false⟩),(2,⟨[.agg [I (w64 ((zl x.lo 0) * k.lo)),I (w64 (x.hi * k.hi))]],2,false⟩),(3,⟨[.agg [I (w64 ((zl x.lo 0) * k.lo)),I (w64 (x.hi * k.hi))]],2,false⟩)] 4]

def sd40063 (ν0 ν1 ν2:Nat) (μ0:List Sn) (μ1:Int) (μ2:Sn) (μ3:Sn):St:=⟨40,[(4,.lsl ν0 0 1 2 none),(22,.lsl ν1 0 ((μ0++[(⟨w64 (μ1 * μ2.lo),w64 ((w64 (0 - μ3.lo)) * μ2.hi)⟩:Sn)]).length) 2 none),(23,I (((μ0++[(⟨w64 (μ1 * μ2.lo),w64 ((w64 (0 - μ3.lo)) * μ2.hi)⟩:Sn)]).length:Nat):Int)),(24,I 0)],[(ν0,⟨[.agg [I (w64 ((zl μ3.lo 0) * μ2.lo)),I (w64 (μ3.hi * μ2.hi))]],2,false⟩),(ν1,⟨(μ0++[(⟨w64 (μ1 * μ2.lo),w64 ((w64 (0 - μ3.lo)) * μ2.hi)⟩:Sn)]).map Sn.D,2,false⟩)],ν2,ν0⟩

def ranges_Times_1_o13 (x:Sn) (k:Sn) (yI:List Sn) (yV:Int) (xv:List Sn):List Ora:=[.inl (.lsl 7 0 ((yI++[(⟨w64 (yV * k.lo),w64 ((w64 (0 - x.lo)) * k.hi)⟩:Sn)]).length) 2 none) [(4,⟨[.agg [I k.lo,I k.hi]],2,false⟩),(6,⟨[.agg [I (w64 (yV * k.lo)),I (w64 ((w64 (0 - x.lo)) * k.hi))]],2,false⟩),(7,⟨(yI++[(⟨w64 (yV * k.lo),w64 ((w64 (0 - x.lo)) * k.hi)⟩:Sn)]).map Sn.D,2,false⟩)] 8,.gloop (sd40063 0 1 2 yI yV k x) (.exit 0) (sd40017 0 1 2 xv yI yV k x)]

def sd40065 (ν0 ν1 ν2:Nat) (μ0:List Sn) (μ1:Int) (μ2:Sn) (μ3:Sn):St:=⟨40,[(4,.lsl ν0 0 1 2 none),(22,.lsl ν1 0 ((μ0++[(⟨w64 (μ1 * μ2.lo),w64 (μ1 * μ2.hi)⟩:Sn)]).length) 2 none),(23,I (((μ0++[(⟨w64 (μ1 * μ2.lo),w64 (μ1 * μ2.hi)⟩:Sn)]).length:Nat):Int)),(24,I 0)],[(ν0,⟨[.agg [I (w64 ((zl μ3.lo 0) * μ2.lo)),I (w64 (μ3.hi * μ2.hi))]],2,false⟩),(ν1,⟨(μ0++[(⟨w64 (μ1 * μ2.lo),w64 (μ1 * μ2.hi)⟩:Sn)]).map Sn.D,2,false⟩)],ν2,ν0⟩

def ranges_Times_1_o14 (x:Sn) (k:Sn) (yI:List Sn) (yV:Int) (xv:List Sn):List Ora:=[.inl (.lsl 7 0 ((yI++[(⟨w64 (yV * k.lo),w64 (yV * k.hi)⟩:Sn)]).length) 2 none) [(4,⟨[.agg [I k.lo,I k.hi]],2,false⟩),(6,⟨[.agg [I (w64 (yV * k.lo)),I (w64 (yV * k.hi))]],2,false⟩),(7,⟨(yI++[(⟨w64 (yV * k.lo),w64 (yV * k.hi)⟩:Sn)]).map Sn.D,2,false⟩)] 8,.gloop (sd40065 0 1 2 yI yV k x) (.exit 0) (sd40021 0 1 2 xv yI yV k)]

def sd40067 (ν0 ν1 ν2:Nat) (μ0:List Sn) (μ1:Sn) (μ2:Sn):St:=⟨40,[(4,.lsl ν0 0 1 2 none),(22,.lsl ν1 0 μ0.length 2 none),(23,I ((μ0.length:Nat):Int)),(24,I 0)],[(ν0,⟨[.agg [I (w64 ((zl μ1.lo 0) * μ2.lo)),I (w64 (μ1.hi * μ2.hi))]],2,false⟩),(ν1,⟨μ0.map Sn.D,2,false⟩)],ν2,ν0⟩

def ranges_Times_1_o15 (x:Sn) (k:Sn) (yI:List Sn) (xv:List Sn):List Ora:=[.inl (.lsl 5 0 yI.length 2 none) [(4,⟨[.agg [I k.lo,I k.hi]],2,false⟩),(5,⟨yI.map Sn.D,2,false⟩)] 6,.gloop (sd40067 0 1 2 yI x k) (.exit 0) (sd40013 0 1 2 xv yI)]

def ranges_Times_1_o16 (x:Sn) (k:Sn) (yM:List Sn) (yT:Int):List Ora:=[.inl (.sl true [] 0 none) [(1,⟨[.agg [I k.lo,I k.hi]],2,false⟩)] 2,.inl (.lsl 5 0 ((yM++[(⟨w64 (yT * k.lo),w64 ((w64 (0 - x.lo)) * k.hi)⟩:Sn)]).length) 2 none) [(2,⟨[.agg [I k.lo,I k.hi]],2,false⟩),(4,⟨[.agg [I (w64 (yT * k.lo)),I (w64 ((w64 (0 - x.lo)) * k.hi))]],2,false⟩),(5,⟨(yM++[(⟨w64 (yT * k.lo),w64 ((w64 (0 - x.lo)) * k.hi)⟩:Sn)]).map Sn.D,2,false⟩)] 6]

def ranges_Times_1_o17 (k:Sn) (yM:List Sn) (yT:Int):List Ora:=[.inl (.sl true [] 0 none) [(1,⟨[.agg [I k.lo,I k.hi]],2,false⟩)] 2,.inl (.lsl 5 0 ((yM++[(⟨w64 (yT * k.lo),w64 (yT * k.hi)⟩:Sn)]).length) 2 none) [(2,⟨[.agg [I k.lo,I k.hi]],2,false⟩),(4,⟨[.agg [I (w64 (yT * k.lo)),I (w64 (yT * k.hi))]],2,false⟩),(5,⟨(yM++[(⟨w64 (yT * k.lo),w64 (yT * k.hi)⟩:Sn)]).map Sn.D,2,false⟩)] 6]

def ranges_Times_1_o18 (k:Sn) (yM:List Sn):List Ora:=[.inl (.sl true [] 0 none) [(1,⟨[.agg [I k.lo,I k.hi]],2,false⟩)] 2,.inl (.lsl 3 0 yM.length 2 none) [(2,⟨[.agg [I k.lo,I k.hi]],2,false⟩),(3,⟨yM.map Sn.D,2,false⟩)] 4]

def sd40012 (ν0 ν1 ν2 ν3 ν4:Nat) (μ0:List Sn) (μ1:Int) (μ2:Sn) (μ3:Sn):St:=⟨54,[(6,.lsl ν0 0 ((μ0++[(⟨w64 (μ1 * μ2.lo),w64 ((w64 (0 - μ3.lo)) * μ2.hi)⟩:Sn)]).length) 2 none),(37,.lsl ν0 0 ((μ0++[(⟨w64 (μ1 * μ2.lo),w64 ((w64 (0 - μ3.lo)) * μ2.hi)⟩:Sn)]).length) 2 none),(36,.lsl ν1 0 1 2 (some 1)),(35,.agg [I (w64 (μ1 * μ2.lo)),I (w64 ((w64 (0 - μ3.lo)) * μ2.hi))]),(34,I (w64 ((w64 (0 - μ3.lo)) * μ2.hi))),(33,I μ2.hi),(32,.lref ν2 0 2 1),(31,I (w64 (0 - μ3.lo))),(30,I (w64 (μ1 * μ2.lo))),(29,I μ2.lo),(28,.lref ν2 0 2 0),(27,I μ1),(26,.lsl ν3 0 μ0.length 2 none),(25,B true),(24,I (w64 (μ2.lo - 1))),(23,I μ2.lo),(22,.lref ν2 0 2 0),(21,I (w64 (μ1 * (w64 (μ2.hi - μ2.lo))))),(20,I (w64 (μ2.hi - μ2.lo))),(19,I μ2.lo),(18,.lref ν2 0 2 0),(17,I μ2.hi),(16,.lref ν2 0 2 1),(15,I μ1),(12,B true),(11,I (w64 (0 - μ3.lo))),(10,I μ1),(1,I (w64 (0 - μ3.lo))),(5,.lref ν2 0 2 0),(7,.lsl ν3 0 μ0.length 2 none),(8,I μ1)],[(ν2,⟨[.agg [I μ2.lo,I μ2.hi]],2,false⟩),(ν1,⟨[.agg [I (w64 (μ1 * μ2.lo)),I (w64 ((w64 (0 - μ3.lo)) * μ2.hi))]],2,false⟩),(ν0,⟨(μ0++[(⟨w64 (μ1 * μ2.lo),w64 ((w64 (0 - μ3.lo)) * μ2.hi)⟩:Sn)]).map Sn.D,2,false⟩)],ν4,ν2⟩

def sd40015 (ν0 ν1 ν2 ν3 ν4 ν5 ν6 ν7:Nat) (μ0:List Sn) (μ1:Int) (μ2:Sn) (μ3:Sn) (μ4:List Sn) (μ5:Int):St:=⟨40,[(24,I 0),(23,I (((μ0++[(⟨w64 (μ1 * μ2.lo),w64 ((w64 (0 - μ3.lo)) * μ2.hi)⟩:Sn)]).length:Nat):Int)),(22,.lsl ν0 0 ((μ0++[(⟨w64 (μ1 * μ2.lo),w64 ((w64 (0 - μ3.lo)) * μ2.hi)⟩:Sn)]).length) 2 none),(21,.agg [I μ2.lo,I μ2.hi]),(20,I (w64 (0 - μ3.lo))),(19,I μ3.lo),(18,.lref ν1 0 2 0),(17,I (zl (w64 (0 - μ3.hi)) 0)),(16,I (w64 (0 - μ3.hi))),(15,I μ3.hi),(14,.lref ν1 0 2 1),(4,.lsl ν2 0 ((μ4++[(⟨w64 (μ5 * μ2.lo),w64 (μ3.hi * μ2.hi)⟩:Sn)]).length) 2 none),(13,.lsl ν2 0 ((μ4++[(⟨w64 (μ5 * μ2.lo),w64 (μ3.hi * μ2.hi)⟩:Sn)]).length) 2 none),(12,.agg [I μ2.lo,I μ2.hi]),(11,I μ3.hi),(10,.lref ν1 0 2 1),(9,I (zl μ3.lo 0)),(8,I μ3.lo),(7,.lref ν1 0 2 0),(3,.sl true [] 0 none),(2,.lref ν1 0 2 0),(0,.agg [I μ3.lo,I μ3.hi]),(1,.ptr (.agg [I μ2.lo,I μ2.hi]))],[(ν1,⟨[.agg [I μ3.lo,I μ3.hi]],2,false⟩),(ν3,⟨[.agg [I μ2.lo,I μ2.hi]],2,false⟩),(ν4,⟨[.agg [I (w64 (μ5 * μ2.lo)),I (w64 (μ3.hi * μ2.hi))]],2,false⟩),(ν2,⟨(μ4++[(⟨w64 (μ5 * μ2.lo),w64 (μ3.hi * μ2.hi)⟩:Sn)]).map Sn.D,2,false⟩),(ν5,⟨[.agg [I μ2.lo,I μ2.hi]],2,false⟩),(ν6,⟨[.agg [I (w64 (μ1 * μ2.lo)),I (w64 ((w64 (0 - μ3.lo)) * μ2.hi))]],2,false⟩),(ν0,⟨(μ0++[(⟨w64 (μ1 * μ2.lo),w64 ((w64 (0 - μ3.lo)) * μ2.hi)⟩:Sn)]).map Sn.D,2,false⟩)],ν7,ν1⟩

def sd40018 (ν0 ν1 ν2 ν3 ν4:Nat) (μ0:List Sn) (μ1:Int) (μ2:Sn) (μ3:Sn):St:=⟨54,[(52,B true),(51,I (((μ0++[(⟨w64 (μ1 * μ2.lo),w64 (μ1 * μ2.hi)⟩:Sn)]).length:Nat):Int)),(50,.lsl ν0 0 ((μ0++[(⟨w64 (μ1 * μ2.lo),w64 (μ1 * μ2.hi)⟩:Sn)]).length) 2 none),(7,.lsl ν0 0 ((μ0++[(⟨w64 (μ1 * μ2.lo),w64 (μ1 * μ2.hi)⟩:Sn)]).length) 2 none),(49,.lsl ν0 0 ((μ0++[(⟨w64 (μ1 * μ2.lo),w64 (μ1 * μ2.hi)⟩:Sn)]).length) 2 none),(48,.lsl ν1 0 1 2 (some 1)),(47,.agg [I (w64 (μ1 * μ2.lo)),I (w64 (μ1 * μ2.hi))]),(46,I (w64 (μ1 * μ2.hi))),(45,I μ2.hi),(44,.lref ν2 0 2 1),(43,I μ1),(42,I (w64 (μ1 * μ2.lo))),(41,I μ2.lo),(40,.lref ν2 0 2 0),(39,I μ1),(38,.lsl ν3 0 μ0.length 2 none),(25,B false),(24,I (w64 (μ2.lo - 1))),(23,I μ2.lo),(22,.lref ν2 0 2 0),(21,I (w64 (μ1 * (w64 (μ2.hi - μ2.lo))))),(20,I (w64 (μ2.hi - μ2.lo))),(19,I μ2.lo),(18,.lref ν2 0 2 0),(17,I μ2.hi),(16,.lref ν2 0 2 1),(15,I μ1),(12,B true),(11,I (w64 (0 - μ3.lo))),(10,I μ1),(1,I (w64 (0 - μ3.lo))),(5,.lref ν2 0 2 0),(7,.lsl ν3 0 μ0.length 2 none),(8,I μ1)],[(ν2,⟨[.agg [I μ2.lo,I μ2.hi]],2,false⟩),(ν1,⟨[.agg [I (w64 (μ1 * μ2.lo)),I (w64 (μ1 * μ2.hi))]],2,false⟩),(ν0,⟨(μ0++[(⟨w64 (μ1 * μ2.lo),w64 (μ1 * μ2.hi)⟩:Sn)]).map Sn.D,2,false⟩)],ν4,ν2⟩

def sd40019 (ν0 ν1 ν2 ν3 ν4 ν5 ν6 ν7:Nat) (μ0:List Sn) (μ1:Int) (μ2:Sn) (μ3:Sn) (μ4:List Sn) (μ5:Int):St:=⟨40,[(24,I 0),(23,I (((μ0++[(⟨w64 (μ1 * μ2.lo),w64 (μ1 * μ2.hi)⟩:Sn)]).length:Nat):Int)),(22,.lsl ν0 0 ((μ0++[(⟨w64 (μ1 * μ2.lo),w64 (μ1 * μ2.hi)⟩:Sn)]).length) 2 none),(21,.agg [I μ2.lo,I μ2.hi]),(20,I (w64 (0 - μ3.lo))),(19,I μ3.lo),(18,.lref ν1 0 2 0),(17,I (zl (w64 (0 - μ3.hi)) 0)),(16,I (w64 (0 - μ3.hi))),(15,I μ3.hi),(14,.lref ν1 0 2 1),(4,.lsl ν2 0 ((μ4++[(⟨w64 (μ5 * μ2.lo),w64 (μ3.hi * μ2.hi)⟩:Sn)]).length) 2 none),(13,.lsl ν2 0 ((μ4++[(⟨w64 (μ5 * μ2.lo),w64 (μ3.hi * μ2.hi)⟩:Sn)]).length) 2 none),(12,.agg [I μ2.lo,I μ2.hi]),(11,I μ3.hi),(10,.lref ν1 0 2 1),(9,I (zl μ3.lo 0)),(8,I μ3.lo),(7,.lref ν1 0 2 0),(3,.sl true [] 0 none),(2,.lref ν1 0 2 0),(0,.agg [I μ3.lo,I μ3.hi]),(1,.ptr (.agg [I μ2.lo,I μ2.hi]))],[(ν1,⟨[.agg [I μ3.lo,I μ3.hi]],2,false⟩),(ν3,⟨[.agg [I μ2.lo,I μ2.hi]],2,false⟩),(ν4,⟨[.agg [I (w64 (μ5 * μ2.lo)),I (w64 (μ3.hi * μ2.hi))]],2,false⟩),(ν2,⟨(μ4++[(⟨w64 (μ5 * μ2.lo),w64 (μ3.hi * μ2.hi)⟩:Sn)]).map Sn.D,2,false⟩),(ν5,⟨[.agg [I μ2.lo,I μ2.hi]],2,false⟩),(ν6,⟨[.agg [I (w64 (μ1 * μ2.lo)),I (w64 (μ1 * μ2.hi))]],2,false⟩),(ν0,⟨(μ0++[(⟨w64 (μ1 * μ2.lo),w64 (μ1 * μ2.hi)⟩:Sn)]).map Sn.D,2,false⟩)],ν7,ν1⟩

def sd40022 (ν0 ν1 ν2:Nat) (μ0:Sn) (μ1:Int) (μ2:List Sn) (μ3:Sn):St:=⟨54,[(12,B false),(11,I (w64 (0 - μ0.lo))),(10,I μ1),(1,I (w64 (0 - μ0.lo))),(5,.lref ν0 0 2 0),(7,.lsl ν1 0 μ2.length 2 none),(8,I μ1)],[(ν0,⟨[.agg [I μ3.lo,I μ3.hi]],2,false⟩),(ν1,⟨μ2.map Sn.D,2,false⟩)],ν2,ν0⟩

def sd40023 (ν0 ν1 ν2 ν3 ν4 ν5 ν6:Nat) (μ0:List Sn) (μ1:Sn) (μ2:Sn) (μ3:List Sn) (μ4:Int):St:=⟨40,[(24,I 0),(23,I ((μ0.length:Nat):Int)),(22,.lsl ν0 0 μ0.length 2 none),(21,.agg [I μ1.lo,I μ1.hi]),(20,I (w64 (0 - μ2.lo))),(19,I μ2.lo),(18,.lref ν1 0 2 0),(17,I (zl (w64 (0 - μ2.hi)) 0)),(16,I (w64 (0 - μ2.hi))),(15,I μ2.hi),(14,.lref ν1 0 2 1),(4,.lsl ν2 0 ((μ3++[(⟨w64 (μ4 * μ1.lo),w64 (μ2.hi * μ1.hi)⟩:Sn)]).length) 2 none),(13,.lsl ν2 0 ((μ3++[(⟨w64 (μ4 * μ1.lo),w64 (μ2.hi * μ1.hi)⟩:Sn)]).length) 2 none),(12,.agg [I μ1.lo,I μ1.hi]),(11,I μ2.hi),(10,.lref ν1 0 2 1),(9,I (zl μ2.lo 0)),(8,I μ2.lo),(7,.lref ν1 0 2 0),(3,.sl true [] 0 none),(2,.lref ν1 0 2 0),(0,.agg [I μ2.lo,I μ2.hi]),(1,.ptr (.agg [I μ1.lo,I μ1.hi]))],[(ν1,⟨[.agg [I μ2.lo,I μ2.hi]],2,false⟩),(ν3,⟨[.agg [I μ1.lo,I μ1.hi]],2,false⟩),(ν4,⟨[.agg [I (w64 (μ4 * μ1.lo)),I (w64 (μ2.hi * μ1.hi))]],2,false⟩),(ν2,⟨(μ3++[(⟨w64 (μ4 * μ1.lo),w64 (μ2.hi * μ1.hi)⟩:Sn)]).map Sn.D,2,false⟩),(ν5,⟨[.agg [I μ1.lo,I μ1.hi]],2,false⟩),(ν0,⟨μ0.map Sn.D,2,false⟩)],ν6,ν1⟩

def sd40027 (ν0 ν1 ν2:Nat) (μ0:List Sn) (μ1:Int) (μ2:Sn) (μ3:Sn):St:=⟨40,[(4,.lsl ν0 0 (((μ0++[(⟨w64 (μ1 * μ2.lo),w64 (μ3.hi * μ2.hi)⟩:Sn)])++[(⟨w64 (0 - (w64 ((w64 (0 - μ3.lo)) * μ2.hi))),w64 (0 - (w64 ((zl (w64 (0 - μ3.hi)) 0) * μ2.lo)))⟩:Sn)]).length) 2 none),(22,.lsl ν1 0 1 2 none),(23,I 1),(24,I 1)],[(ν0,⟨((μ0++[(⟨w64 (μ1 * μ2.lo),w64 (μ3.hi * μ2.hi)⟩:Sn)])++[(⟨w64 (0 - (w64 ((w64 (0 - μ3.lo)) * μ2.hi))),w64 (0 - (w64 ((zl (w64 (0 - μ3.hi)) 0) * μ2.lo)))⟩:Sn)]).map Sn.D,2,false⟩),(ν1,⟨[.agg [I (w64 ((zl (w64 (0 - μ3.hi)) 0) * μ2.lo)),I (w64 ((w64 (0 - μ3.lo)) * μ2.hi))]],2,false⟩)],ν2,ν0⟩

def sd40026 (ν0 ν1 ν2:Nat) (μ0:List Sn) (μ1:Int) (μ2:Sn) (μ3:Sn):St:=⟨40,[(4,.lsl ν0 0 ((μ0++[(⟨w64 (μ1 * μ2.lo),w64 (μ3.hi * μ2.hi)⟩:Sn)]).length) 2 none),(22,.lsl ν1 0 1 2 none),(23,I 1),(24,I 0)],[(ν0,⟨(μ0++[(⟨w64 (μ1 * μ2.lo),w64 (μ3.hi * μ2.hi)⟩:Sn)]).map Sn.D,2,false⟩),(ν1,⟨[.agg [I (w64 ((zl (w64 (0 - μ3.hi)) 0) * μ2.lo)),I (w64 ((w64 (0 - μ3.lo)) * μ2.hi))]],2,false⟩)],ν2,ν0⟩

def sd40028 (ν0 ν1 ν2 ν3 ν4 ν5:Nat) (μ0:List Sn) (μ1:Int) (μ2:Sn) (μ3:Sn):St:=⟨40,[(24,I 1),(38,I 1),(4,.lsl ν0 0 (((μ0++[(⟨w64 (μ1 * μ2.lo),w64 (μ3.hi * μ2.hi)⟩:Sn)])++[(⟨w64 (0 - (w64 ((w64 (0 - μ3.lo)) * μ2.hi))),w64 (0 - (w64 ((zl (w64 (0 - μ3.hi)) 0) * μ2.lo)))⟩:Sn)]).length) 2 none),(37,.lsl ν0 0 (((μ0++[(⟨w64 (μ1 * μ2.lo),w64 (μ3.hi * μ2.hi)⟩:Sn)])++[(⟨w64 (0 - (w64 ((w64 (0 - μ3.lo)) * μ2.hi))),w64 (0 - (w64 ((zl (w64 (0 - μ3.hi)) 0) * μ2.lo)))⟩:Sn)]).length) 2 none),(36,.lsl ν1 0 1 2 (some 1)),(35,.agg [I (w64 (0 - (w64 ((w64 (0 - μ3.lo)) * μ2.hi)))),I (w64 (0 - (w64 ((zl (w64 (0 - μ3.hi)) 0) * μ2.lo))))]),(34,I (w64 (0 - (w64 ((zl (w64 (0 - μ3.hi)) 0) * μ2.lo))))),(33,I (w64 ((zl (w64 (0 - μ3.hi)) 0) * μ2.lo))),(32,.lref ν2 0 2 0),(31,I (w64 (0 - (w64 ((w64 (0 - μ3.lo)) * μ2.hi))))),(30,I (w64 ((w64 (0 - μ3.lo)) * μ2.hi))),(29,.lref ν2 0 2 1),(28,.lsl ν3 0 ((μ0++[(⟨w64 (μ1 * μ2.lo),w64 (μ3.hi * μ2.hi)⟩:Sn)]).length) 2 none),(6,.lref ν2 0 2 0),(27,.agg [I (w64 ((zl (w64 (0 - μ3.hi)) 0) * μ2.lo)),I (w64 ((w64 (0 - μ3.lo)) * μ2.hi))]),(26,.lref ν4 0 2 0),(25,B true),(4,.lsl ν3 0 ((μ0++[(⟨w64 (μ1 * μ2.lo),w64 (μ3.hi * μ2.hi)⟩:Sn)]).length) 2 none),(22,.lsl ν4 0 1 2 none),(23,I 1),(24,I 0)],[(ν4,⟨[.agg [I (w64 ((zl (w64 (0 - μ3.hi)) 0) * μ2.lo)),I (w64 ((w64 (0 - μ3.lo)) * μ2.hi))]],2,false⟩),(ν2,⟨[.agg [I (w64 ((zl (w64 (0 - μ3.hi)) 0) * μ2.lo)),I (w64 ((w64 (0 - μ3.lo)) * μ2.hi))]],2,false⟩),(ν1,⟨[.agg [I (w64 (0 - (w64 ((w64 (0 - μ3.lo)) * μ2.hi)))),I (w64 (0 - (w64 ((zl (w64 (0 - μ3.hi)) 0) * μ2.lo))))]],2,false⟩),(ν0,⟨((μ0++[(⟨w64 (μ1 * μ2.lo),w64 (μ3.hi * μ2.hi)⟩:Sn)])++[(⟨w64 (0 - (w64 ((w64 (0 - μ3.lo)) * μ2.hi))),w64 (0 - (w64 ((zl (w64 (0 - μ3.hi)) 0) * μ2.lo)))⟩:Sn)]).map Sn.D,2,false⟩)],ν5,ν3⟩

def sd40029 (ν0 ν1 ν2:Nat) (μ0:List Sn) (μ1:Int) (μ2:Sn) (μ3:Sn):St:=⟨40,[(25,B false),(4,.lsl ν0 0 (((μ0++[(⟨w64 (μ1 * μ2.lo),w64 (μ3.hi * μ2.hi)⟩:Sn)])++[(⟨w64 (0 - (w64 ((w64 (0 - μ3.lo)) * μ2.hi))),w64 (0 - (w64 ((zl (w64 (0 - μ3.hi)) 0) * μ2.lo)))⟩:Sn)]).length) 2 none),(22,.lsl ν1 0 1 2 none),(23,I 1),(24,I 1)],[(ν0,⟨((μ0++[(⟨w64 (μ1 * μ2.lo),w64 (μ3.hi * μ2.hi)⟩:Sn)])++[(⟨w64 (0 - (w64 ((w64 (0 - μ3.lo)) * μ2.hi))),w64 (0 - (w64 ((zl (w64 (0 - μ3.hi)) 0) * μ2.lo)))⟩:Sn)]).map Sn.D,2,false⟩),(ν1,⟨[.agg [I (w64 ((zl (w64 (0 - μ3.hi)) 0) * μ2.lo)),I (w64 ((w64 (0 - μ3.lo)) * μ2.hi))]],2,false⟩)],ν2,ν0⟩

def sd40030 (ν0 ν1 ν2 ν3 ν4 ν5 ν6 ν7:Nat) (μ0:Sn) (μ1:Sn) (μ2:List Sn) (μ3:Int):St:=⟨40,[(24,I 0),(23,I 1),(22,.lsl ν0 0 1 2 none),(21,.agg [I μ0.lo,I μ0.hi]),(20,I (w64 (0 - μ1.lo))),(19,I μ1.lo),(18,.lref ν1 0 2 0),(17,I (zl (w64 (0 - μ1.hi)) 0)),(16,I (w64 (0 - μ1.hi))),(15,I μ1.hi),(14,.lref ν1 0 2 1),(4,.lsl ν2 0 ((μ2++[(⟨w64 (μ3 * μ0.lo),w64 (μ1.hi * μ0.hi)⟩:Sn)]).length) 2 none),(13,.lsl ν2 0 ((μ2++[(⟨w64 (μ3 * μ0.lo),w64 (μ1.hi * μ0.hi)⟩:Sn)]).length) 2 none),(12,.agg [I μ0.lo,I μ0.hi]),(11,I μ1.hi),(10,.lref ν1 0 2 1),(9,I (zl μ1.lo 0)),(8,I μ1.lo),(7,.lref ν1 0 2 0),(3,.sl true [] 0 none),(2,.lref ν1 0 2 0),(0,.agg [I μ1.lo,I μ1.hi]),(1,.ptr (.agg [I μ0.lo,I μ0.hi]))],[(ν1,⟨[.agg [I μ1.lo,I μ1.hi]],2,false⟩),(ν3,⟨[.agg [I μ0.lo,I μ0.hi]],2,false⟩),(ν4,⟨[.agg [I (w64 (μ3 * μ0.lo)),I (w64 (μ1.hi * μ0.hi))]],2,false⟩),(ν2,⟨(μ2++[(⟨w64 (μ3 * μ0.lo),w64 (μ1.hi * μ0.hi)⟩:Sn)]).map Sn.D,2,false⟩),(ν5,⟨[.agg [I μ0.lo,I μ0.hi]],2,false⟩),(ν6,⟨[.agg [I (w64 ((zl (w64 (0 - μ1.hi)) 0) * μ0.lo)),I (w64 ((w64 (0 - μ1.lo)) * μ0.hi))]],2,false⟩),(ν0,⟨[.agg [I (w64 ((zl (w64 (0 - μ1.hi)) 0) * μ0.lo)),I (w64 ((w64 (0 - μ1.lo)) * μ0.hi))]],2,false⟩)],ν7,ν1⟩

def sd40025 (ν0 ν1 ν2 ν3:Nat) (μ0:Sn) (μ1:Sn):St:=⟨54,[(6,.lsl ν0 0 1 2 none),(37,.lsl ν0 0 1 2 none),(36,.lsl ν1 0 1 2 (some 1)),(35,.agg [I (w64 ((zl (w64 (0 - μ0.hi)) 0) * μ1.lo)),I (w64 ((w64 (0 - μ0.lo)) * μ1.hi))]),(34,I (w64 ((w64 (0 - μ0.lo)) * μ1.hi))),(33,I μ1.hi),(32,.lref ν2 0 2 1),(31,I (w64 (0 - μ0.lo))),(30,I (w64 ((zl (w64 (0 - μ0.hi)) 0) * μ1.lo))),(29,I μ1.lo),(28,.lref ν2 0 2 0),(27,I (zl (w64 (0 - μ0.hi)) 0)),(26,.sl true [] 0 none),(25,B true),(24,I (w64 (μ1.lo - 1))),(23,I μ1.lo),(22,.lref ν2 0 2 0),(21,I (w64 ((zl (w64 (0 - μ0.hi)) 0) * (w64 (μ1.hi - μ1.lo))))),(20,I (w64 (μ1.hi - μ1.lo))),(19,I μ1.lo),(18,.lref ν2 0 2 0),(17,I μ1.hi),(16,.lref ν2 0 2 1),(15,I (zl (w64 (0 - μ0.hi)) 0)),(12,B true),(11,I (w64 (0 - μ0.lo))),(10,I (zl (w64 (0 - μ0.hi)) 0)),(1,I (w64 (0 - μ0.lo))),(5,.lref ν2 0 2 0),(7,.sl true [] 0 none),(8,I (zl (w64 (0 - μ0.hi)) 0))],[(ν2,⟨[.agg [I μ1.lo,I μ1.hi]],2,false⟩),(ν1,⟨[.agg [I (w64 ((zl (w64 (0 - μ0.hi)) 0) * μ1.lo)),I (w64 ((w64 (0 - μ0.lo)) * μ1.hi))]],2,false⟩),(ν0,⟨[.agg [I (w64 ((zl (w64 (0 - μ0.hi)) 0) * μ1.lo)),I (w64 ((w64 (0 - μ0.lo)) * μ1.hi))]],2,false⟩)],ν3,ν2⟩

def sd40032 (ν0 ν1:Nat) (μ0:List Sn) (μ1:Int) (μ2:Sn) (μ3:Sn):St:=⟨40,[(4,.lsl ν0 0 ((μ0++[(⟨w64 (μ1 * μ2.lo),w64 (μ3.hi * μ2.hi)⟩:Sn)]).length) 2 none),(22,.sl true [] 0 none),(23,I 0),(24,I 0)],[(ν0,⟨(μ0++[(⟨w64 (μ1 * μ2.lo),w64 (μ3.hi * μ2.hi)⟩:Sn)]).map Sn.D,2,false⟩)],ν1,ν0⟩

def sd40033 (ν0 ν1:Nat) (μ0:List Sn) (μ1:Int) (μ2:Sn) (μ3:Sn):St:=⟨40,[(25,B false),(4,.lsl ν0 0 ((μ0++[(⟨w64 (μ1 * μ2.lo),w64 (μ3.hi * μ2.hi)⟩:Sn)]).length) 2 none),(22,.sl true [] 0 none),(23,I 0),(24,I 0)],[(ν0,⟨(μ0++[(⟨w64 (μ1 * μ2.lo),w64 (μ3.hi * μ2.hi)⟩:Sn)]).map Sn.D,2,false⟩)],ν1,ν0⟩

def sd40034 (ν0 ν1 ν2 ν3 ν4 ν5:Nat) (μ0:Sn) (μ1:Sn) (μ2:List Sn) (μ3:Int):St:=⟨40,[(24,I 0),(23,I 0),(22,.sl true [] 0 none),(21,.agg [I μ0.lo,I μ0.hi]),(20,I (w64 (0 - μ1.lo))),(19,I μ1.lo),(18,.lref ν0 0 2 0),(17,I (zl (w64 (0 - μ1.hi)) 0)),(16,I (w64 (0 - μ1.hi))),(15,I μ1.hi),(14,.lref ν0 0 2 1),(4,.lsl ν1 0 ((μ2++[(⟨w64 (μ3 * μ0.lo),w64 (μ1.hi * μ0.hi)⟩:Sn)]).length) 2 none),(13,.lsl ν1 0 ((μ2++[(⟨w64 (μ3 * μ0.lo),w64 (μ1.hi * μ0.hi)⟩:Sn)]).length) 2 none),(12,.agg [I μ0.lo,I μ0.hi]),(11,I μ1.hi),(10,.lref ν0 0 2 1),(9,I (zl μ1.lo 0)),(8,I μ1.lo),(7,.lref ν0 0 2 0),(3,.sl true [] 0 none),(2,.lref ν0 0 2 0),(0,.agg [I μ1.lo,I μ1.hi]),(1,.ptr (.agg [I μ0.lo,I μ0.hi]))],[(ν0,⟨[.agg [I μ1.lo,I μ1.hi]],2,false⟩),(ν2,⟨[.agg [I μ0.lo,I μ0.hi]],2,false⟩),(ν3,⟨[.agg [I (w64 (μ3 * μ0.lo)),I (w64 (μ1.hi * μ0.hi))]],2,false⟩),(ν1,⟨(μ2++[(⟨w64 (μ3 * μ0.lo),w64 (μ1.hi * μ0.hi)⟩:Sn)]).map Sn.D,2,false⟩),(ν4,⟨[.agg [I μ0.lo,I μ0.hi]],2,false⟩)],ν5,ν0⟩

def sd40031 (ν0 ν1:Nat) (μ0:Sn) (μ1:Sn):St:=⟨54,[(12,B false),(11,I (w64 (0 - μ0.lo))),(10,I (zl (w64 (0 - μ0.hi)) 0)),(1,I (w64 (0 - μ0.lo))),(5,.lref ν0 0 2 0),(7,.sl true [] 0 none),(8,I (zl (w64 (0 - μ0.hi)) 0))],[(ν0,⟨[.agg [I μ1.lo,I μ1.hi]],2,false⟩)],ν1,ν0⟩

def sd40035 (ν0 ν1 ν2 ν3 ν4 ν5 ν6 ν7:Nat) (μ0:List Sn) (μ1:Int) (μ2:Sn) (μ3:Sn) (μ4:List Sn) (μ5:Int):St:=⟨40,[(24,I 0),(23,I (((μ0++[(⟨w64 (μ1 * μ2.lo),w64 ((w64 (0 - μ3.lo)) * μ2.hi)⟩:Sn)]).length:Nat):Int)),(22,.lsl ν0 0 ((μ0++[(⟨w64 (μ1 * μ2.lo),w64 ((w64 (0 - μ3.lo)) * μ2.hi)⟩:Sn)]).length) 2 none),(21,.agg [I μ2.lo,I μ2.hi]),(20,I (w64 (0 - μ3.lo))),(19,I μ3.lo),(18,.lref ν1 0 2 0),(17,I (zl (w64 (0 - μ3.hi)) 0)),(16,I (w64 (0 - μ3.hi))),(15,I μ3.hi),(14,.lref ν1 0 2 1),(4,.lsl ν2 0 ((μ4++[(⟨w64 (μ5 * μ2.lo),w64 (μ5 * μ2.hi)⟩:Sn)]).length) 2 none),(13,.lsl ν2 0 ((μ4++[(⟨w64 (μ5 * μ2.lo),w64 (μ5 * μ2.hi)⟩:Sn)]).length) 2 none),(12,.agg [I μ2.lo,I μ2.hi]),(11,I μ3.hi),(10,.lref ν1 0 2 1),(9,I (zl μ3.lo 0)),(8,I μ3.lo),(7,.lref ν1 0 2 0),(3,.sl true [] 0 none),(2,.lref ν1 0 2 0),(0,.agg [I μ3.lo,I μ3.hi]),(1,.ptr (.agg [I μ2.lo,I μ2.hi]))],[(ν1,⟨[.agg [I μ3.lo,I μ3.hi]],2,false⟩),(ν3,⟨[.agg [I μ2.lo,I μ2.hi]],2,false⟩),(ν4,⟨[.agg [I (w64 (μ5 * μ2.lo)),I (w64 (μ5 * μ2.hi))]],2,false⟩),(ν2,⟨(μ4++[(⟨w64 (μ5 * μ2.lo),w64 (μ5 * μ2.hi)⟩:Sn)]).map Sn.D,2,false⟩),(ν5,⟨[.agg [I μ2.lo,I μ2.hi]],2,false⟩),(ν6,⟨[.agg [I (w64 (μ1 * μ2.lo)),I (w64 ((w64 (0 - μ3.lo)) * μ2.hi))]],2,false⟩),(ν0,⟨(μ0++[(⟨w64 (μ1 * μ2.lo),w64 ((w64 (0 - μ3.lo)) * μ2.hi)⟩:Sn)]).map Sn.D,2,false⟩)],ν7,ν1⟩

def sd40037 (ν0 ν1 ν2 ν3 ν4 ν5 ν6 ν7:Nat) (μ0:List Sn) (μ1:Int) (μ2:Sn) (μ3:Sn) (μ4:List Sn) (μ5:Int):St:=⟨40,[(24,I 0),(23,I (((μ0++[(⟨w64 (μ1 * μ2.lo),w64 (μ1 * μ2.hi)⟩:Sn)]).length:Nat):Int)),(22,.lsl ν0 0 ((μ0++[(⟨w64 (μ1 * μ2.lo),w64 (μ1 * μ2.hi)⟩:Sn)]).length) 2 none),(21,.agg [I μ2.lo,I μ2.hi]),(20,I (w64 (0 - μ3.lo))),(19,I μ3.lo),(18,.lref ν1 0 2 0),(17,I (zl (w64 (0 - μ3.hi)) 0)),(16,I (w64 (0 - μ3.hi))),(15,I μ3.hi),(14,.lref ν1 0 2 1),(4,.lsl ν2 0 ((μ4++[(⟨w64 (μ5 * μ2.lo),w64 (μ5 * μ2.hi)⟩:Sn)]).length) 2 none),(13,.lsl ν2 0 ((μ4++[(⟨w64 (μ5 * μ2.lo),w64 (μ5 * μ2.hi)⟩:Sn)]).length) 2 none),(12,.agg [I μ2.lo,I μ2.hi]),(11,I μ3.hi),(10,.lref ν1 0 2 1),(9,I (zl μ3.lo 0)),(8,I μ3.lo),(7,.lref ν1 0 2 0),(3,.sl true [] 0 none),(2,.lref ν1 0 2 0),(0,.agg [I μ3.lo,I μ3.hi]),(1,.ptr (.agg [I μ2.lo,I μ2.hi]))],[(ν1,⟨[.agg [I μ3.lo,I μ3.hi]],2,false⟩),(ν3,⟨[.agg [I μ2.lo,I μ2.hi]],2,false⟩),(ν4,⟨[.agg [I (w64 (μ5 * μ2.lo)),I (w64 (μ5 * μ2.hi))]],2,false⟩),(ν2,⟨(μ4++[(⟨w64 (μ5 * μ2.lo),w64 (μ5 * μ2.hi)⟩:Sn)]).map Sn.D,2,false⟩),(ν5,⟨[.agg [I μ2.lo,I μ2.hi]],2,false⟩),(ν6,⟨[.agg [I (w64 (μ1 * μ2.lo)),I (w64 (μ1 * μ2.hi))]],2,false⟩),(ν0,⟨(μ0++[(⟨w64 (μ1 * μ2.lo),w64 (μ1 * μ2.hi)⟩:Sn)]).map Sn.D,2,false⟩)],ν7,ν1⟩

def sd40039 (ν0 ν1 ν2 ν3 ν4 ν5 ν6:Nat) (μ0:List Sn) (μ1:Sn) (μ2:Sn) (μ3:List Sn) (μ4:Int):St:=⟨40,[(24,I 0),(23,I ((μ0.length:Nat):Int)),(22,.lsl ν0 0 μ0.length 2 none),(21,.agg [I μ1.lo,I μ1.hi]),(20,I (w64 (0 - μ2.lo))),(19,I μ2.lo),(18,.lref ν1 0 2 0),(17,I (zl (w64 (0 - μ2.hi)) 0)),(16,I (w64 (0 - μ2.hi))),(15,I μ2.hi),(14,.lref ν1 0 2 1),(4,.lsl ν2 0 ((μ3++[(⟨w64 (μ4 * μ1.lo),w64 (μ4 * μ1.hi)⟩:Sn)]).length) 2 none),(13,.lsl ν2 0 ((μ3++[(⟨w64 (μ4 * μ1.lo),w64 (μ4 * μ1.hi)⟩:Sn)]).length) 2 none),(12,.agg [I μ1.lo,I μ1.hi]),(11,I μ2.hi),(10,.lref ν1 0 2 1),(9,I (zl μ2.lo 0)),(8,I μ2.lo),(7,.lref ν1 0 2 0),(3,.sl true [] 0 none),(2,.lref ν1 0 2 0),(0,.agg [I μ2.lo,I μ2.hi]),(1,.ptr (.agg [I μ1.lo,I μ1.hi]))],[(ν1,⟨[.agg [I μ2.lo,I μ2.hi]],2,false⟩),(ν3,⟨[.agg [I μ1.lo,I μ1.hi]],2,false⟩),(ν4,⟨[.agg [I (w64 (μ4 * μ1.lo)),I (w64 (μ4 * μ1.hi))]],2,false⟩),(ν2,⟨(μ3++[(⟨w64 (μ4 * μ1.lo),w64 (μ4 * μ1.hi)⟩:Sn)]).map Sn.D,2,false⟩),(ν5,⟨[.agg [I μ1.lo,I μ1.hi]],2,false⟩),(ν0,⟨μ0.map Sn.D,2,false⟩)],ν6,ν1⟩

def sd40042 (ν0 ν1 ν2:Nat) (μ0:List Sn) (μ1:Int) (μ2:Sn) (μ3:Sn):St:=⟨40,[(4,.lsl ν0 0 (((μ0++[(⟨w64 (μ1 * μ2.lo),w64 (μ1 * μ2.hi)⟩:Sn)])++[(⟨w64 (0 - (w64 ((w64 (0 - μ3.lo)) * μ2.hi))),w64 (0 - (w64 ((zl (w64 (0 - μ3.hi)) 0) * μ2.lo)))⟩:Sn)]).length) 2 none),(22,.lsl ν1 0 1 2 none),(23,I 1),(24,I 1)],[(ν0,⟨((μ0++[(⟨w64 (μ1 * μ2.lo),w64 (μ1 * μ2.hi)⟩:Sn)])++[(⟨w64 (0 - (w64 ((w64 (0 - μ3.lo)) * μ2.hi))),w64 (0 - (w64 ((zl (w64 (0 - μ3.hi)) 0) * μ2.lo)))⟩:Sn)]).map Sn.D,2,false⟩),(ν1,⟨[.agg [I (w64 ((zl (w64 (0 - μ3.hi)) 0) * μ2.lo)),I (w64 ((w64 (0 - μ3.lo)) * μ2.hi))]],2,false⟩)],ν2,ν0⟩

def sd40041 (ν0 ν1 ν2:Nat) (μ0:List Sn) (μ1:Int) (μ2:Sn) (μ3:Sn):St:=⟨40,[(4,.lsl ν0 0 ((μ0++[(⟨w64 (μ1 * μ2.lo),w64 (μ1 * μ2.hi)⟩:Sn)]).length) 2 none),(22,.lsl ν1 0 1 2 none),(23,I 1),(24,I 0)],[(ν0,⟨(μ0++[(⟨w64 (μ1 * μ2.lo),w64 (μ1 * μ2.hi)⟩:Sn)]).map Sn.D,2,false⟩),(ν1,⟨[.agg [I (w64 ((zl (w64 (0 - μ3.hi)) 0) * μ2.lo)),I (w64 ((w64 (0 - μ3.lo)) * μ2.hi))]],2,false⟩)],ν2,ν0⟩

def sd40043 (ν0 ν1 ν2 ν3 ν4 ν5:Nat) (μ0:List Sn) (μ1:Int) (μ2:Sn) (μ3:Sn):St:=⟨40,[(24,I 1),(38,I 1),(4,.lsl ν0 0 (((μ0++[(⟨w64 (μ1 * μ2.lo),w64 (μ1 * μ2.hi)⟩:Sn)])++[(⟨w64 (0 - (w64 ((w64 (0 - μ3.lo)) * μ2.hi))),w64 (0 - (w64 ((zl (w64 (0 - μ3.hi)) 0) * μ2.lo)))⟩:Sn)]).length) 2 none),(37,.lsl ν0 0 (((μ0++[(⟨w64 (μ1 * μ2.lo),w64 (μ1 * μ2.hi)⟩:Sn)])++[(⟨w64 (0 - (w64 ((w64 (0 - μ3.lo)) * μ2.hi))),w64 (0 - (w64 ((zl (w64 (0 - μ3.hi)) 0) * μ2.lo)))⟩:Sn)]).length) 2 none),(36,.lsl ν1 0 1 2 (some 1)),(35,.agg [I (w64 (0 - (w64 ((w64 (0 - μ3.lo)) * μ2.hi)))),I (w64 (0 - (w64 ((zl (w64 (0 - μ3.hi)) 0) * μ2.lo))))]),(34,I (w64 (0 - (w64 ((zl (w64 (0 - μ3.hi)) 0) * μ2.lo))))),(33,I (w64 ((zl (w64 (0 - μ3.hi)) 0) * μ2.lo))),(32,.lref ν2 0 2 0),(31,I (w64 (0 - (w64 ((w64 (0 - μ3.lo)) * μ2.hi))))),(30,I (w64 ((w64 (0 - μ3.lo)) * μ2.hi))),(29,.lref ν2 0 2 1),(28,.lsl ν3 0 ((μ0++[(⟨w64 (μ1 * μ2.lo),w64 (μ1 * μ2.hi)⟩:Sn)]).length) 2 none),(6,.lref ν2 0 2 0),(27,.agg [I (w64 ((zl (w64 (0 - μ3.hi)) 0) * μ2.lo)),I (w64 ((w64 (0 - μ3.lo)) * μ2.hi))]),(26,.lref ν4 0 2 0),(25,B true),(4,.lsl ν3 0 ((μ0++[(⟨w64 (μ1 * μ2.lo),w64 (μ1 * μ2.hi)⟩:Sn)]).length) 2 none),(22,.lsl ν4 0 1 2 none),(23,I 1),(24,I 0)],[(ν4,⟨[.agg [I (w64 ((zl (w64 (0 - μ3.hi)) 0) * μ2.lo)),I (w64 ((w64 (0 - μ3.lo)) * μ2.hi))]],2,false⟩),(ν2,⟨[.agg [I (w64 ((zl (w64 (0 - μ3.hi)) 0) * μ2.lo)),I (w64 ((w64 (0 - μ3.lo)) * μ2.hi))]],2,false⟩),(ν1,⟨[.agg [I (w64 (0 - (w64 ((w64 (0 - μ3.lo)) * μ2.hi)))),I (w64 (0 - (w64 ((zl (w64 (0 - μ3.hi)) 0) * μ2.lo))))]],2,false⟩),(ν0,⟨((μ0++[(⟨w64 (μ1 * μ2.lo),w64 (μ1 * μ2.hi)⟩:Sn)])++[(⟨w64 (0 - (w64 ((w64 (0 - μ3.lo)) * μ2.hi))),w64 (0 - (w64 ((zl (w64 (0 - μ3.hi)) 0) * μ2.lo)))⟩:Sn)]).map Sn.D,2,false⟩)],ν5,ν3⟩

def sd40044 (ν0 ν1 ν2:Nat) (μ0:List Sn) (μ1:Int) (μ2:Sn) (μ3:Sn):St:=⟨40,[(25,B false),(4,.lsl ν0 0 (((μ0++[(⟨w64 (μ1 * μ2.lo),w64 (μ1 * μ2.hi)⟩:Sn)])++[(⟨w64 (0 - (w64 ((w64 (0 - μ3.lo)) * μ2.hi))),w64 (0 - (w64 ((zl (w64 (0 - μ3.hi)) 0) * μ2.lo)))⟩:Sn)]).length) 2 none),(22,.lsl ν1 0 1 2 none),(23,I 1),(24,I 1)],[(ν0,⟨((μ0++[(⟨w64 (μ1 * μ2.lo),w64 (μ1 * μ2.hi)⟩:Sn)])++[(⟨w64 (0 - (w64 ((w64 (0 - μ3.lo)) * μ2.hi))),w64 (0 - (w64 ((zl (w64 (0 - μ3.hi)) 0) * μ2.lo)))⟩:Sn)]).map Sn.D,2,false⟩),(ν1,⟨[.agg [I (w64 ((zl (w64 (0 - μ3.hi)) 0) * μ2.lo)),I (w64 ((w64 (0 - μ3.lo)) * μ2.hi))]],2,false⟩)],ν2,ν0⟩

def sd40045 (ν0 ν1 ν2 ν3 ν4 ν5 ν6 ν7:Nat) (μ0:Sn) (μ1:Sn) (μ2:List Sn) (μ3:Int):St:=⟨40,[(24,I 0),(23,I 1),(22,.lsl ν0 0 1 2 none),(21,.agg [I μ0.lo,I μ0.hi]),(20,I (w64 (0 - μ1.lo))),(19,I μ1.lo),(18,.lref ν1 0 2 0),(17,I (zl (w64 (0 - μ1.hi)) 0)),(16,I (w64 (0 - μ1.hi))),(15,I μ1.hi),(14,.lref ν1 0 2 1),(4,.lsl ν2 0 ((μ2++[(⟨w64 (μ3 * μ0.lo),w64 (μ3 * μ0.hi)⟩:Sn)]).length) 2 none),(13,.lsl ν2 0 ((μ2++[(⟨w64 (μ3 * μ0.lo),w64 (μ3 * μ0.hi)⟩:Sn)]).length) 2 none),(12,.agg [I μ0.lo,I μ0.hi]),(11,I μ1.hi),(10,.lref ν1 0 2 1),(9,I (zl μ1.lo 0)),(8,I μ1.lo),(7,.lref ν1 0 2 0),(3,.sl true [] 0 none),(2,.lref ν1 0 2 0),(0,.agg [I μ1.lo,I μ1.hi]),(1,.ptr (.agg [I μ0.lo,I μ0.hi]))],[(ν1,⟨[.agg [I μ1.lo,I μ1.hi]],2,false⟩),(ν3,⟨[.agg [I μ0.lo,I μ0.hi]],2,false⟩),(ν4,⟨[.agg [I (w64 (μ3 * μ0.lo)),I (w64 (μ3 * μ0.hi))]],2,false⟩),(ν2,⟨(μ2++[(⟨w64 (μ3 * μ0.lo),w64 (μ3 * μ0.hi)⟩:Sn)]).map Sn.D,2,false⟩),(ν5,⟨[.agg [I μ0.lo,I μ0.hi]],2,false⟩),(ν6,⟨[.agg [I (w64 ((zl (w64 (0 - μ1.hi)) 0) * μ0.lo)),I (w64 ((w64 (0 - μ1.lo)) * μ0.hi))]],2,false⟩),(ν0,⟨[.agg [I (w64 ((zl (w64 (0 - μ1.hi)) 0) * μ0.lo)),I (w64 ((w64 (0 - μ1.lo)) * μ0.hi))]],2,false⟩)],ν7,ν1⟩

def sd40046 (ν0 ν1:Nat) (μ0:List Sn) (μ1:Int) (μ2:Sn):St:=⟨40,[(4,.lsl ν0 0 ((μ0++[(⟨w64 (μ1 * μ2.lo),w64 (μ1 * μ2.hi)⟩:Sn)]).length) 2 none),(22,.sl true [] 0 none),(23,I 0),(24,I 0)],[(ν0,⟨(μ0++[(⟨w64 (μ1 * μ2.lo),w64 (μ1 * μ2.hi)⟩:Sn)]).map Sn.D,2,false⟩)],ν1,ν0⟩

def sd40047 (ν0 ν1:Nat) (μ0:List Sn) (μ1:Int) (μ2:Sn):St:=⟨40,[(25,B false),(4,.lsl ν0 0 ((μ0++[(⟨w64 (μ1 * μ2.lo),w64 (μ1 * μ2.hi)⟩:Sn)]).length) 2 none),(22,.sl true [] 0 none),(23,I 0),(24,I 0)],[(ν0,⟨(μ0++[(⟨w64 (μ1 * μ2.lo),w64 (μ1 * μ2.hi)⟩:Sn)]).map Sn.D,2,false⟩)],ν1,ν0⟩

def sd40048 (ν0 ν1 ν2 ν3 ν4 ν5:Nat) (μ0:Sn) (μ1:Sn) (μ2:List Sn) (μ3:Int):St:=⟨40,[(24,I 0),(23,I 0),(22,.sl true [] 0 none),(21,.agg [I μ0.lo,I μ0.hi]),(20,I (w64 (0 - μ1.lo))),(19,I μ1.lo),(18,.lref ν0 0 2 0),(17,I (zl (w64 (0 - μ1.hi)) 0)),(16,I (w64 (0 - μ1.hi))),(15,I μ1.hi),(14,.lref ν0 0 2 1),(4,.lsl ν1 0 ((μ2++[(⟨w64 (μ3 * μ0.lo),w64 (μ3 * μ0.hi)⟩:Sn)]).length) 2 none),(13,.lsl ν1 0 ((μ2++[(⟨w64 (μ3 * μ0.lo),w64 (μ3 * μ0.hi)⟩:Sn)]).length) 2 none),(12,.agg [I μ0.lo,I μ0.hi]),(11,I μ1.hi),(10,.lref ν0 0 2 1),(9,I (zl μ1.lo 0)),(8,I μ1.lo),(7,.lref ν0 0 2 0),(3,.sl true [] 0 none),(2,.lref ν0 0 2 0),(0,.agg [I μ1.lo,I μ1.hi]),(1,.ptr (.agg [I μ0.lo,I μ0.hi]))],[(ν0,⟨[.agg [I μ1.lo,I μ1.hi]],2,false⟩),(ν2,⟨[.agg [I μ0.lo,I μ0.hi]],2,false⟩),(ν3,⟨[.agg [I (w64 (μ3 * μ0.lo)),I (w64 (μ3 * μ0.hi))]],2,false⟩),(ν1,⟨(μ2++[(⟨w64 (μ3 * μ0.lo),w64 (μ3 * μ0.hi)⟩:Sn)]).map Sn.D,2,false⟩),(ν4,⟨[.agg [I μ0.lo,I μ0.hi]],2,false⟩)],ν5,ν0⟩

def sd40049 (ν0 ν1 ν2 ν3 ν4 ν5 ν6:Nat) (μ0:List Sn) (μ1:Int) (μ2:Sn) (μ3:Sn) (μ4:List Sn):St:=⟨40,[(24,I 0),(23,I (((μ0++[(⟨w64 (μ1 * μ2.lo),w64 ((w64 (0 - μ3.lo)) * μ2.hi)⟩:Sn)]).length:Nat):Int)),(22,.lsl ν0 0 ((μ0++[(⟨w64 (μ1 * μ2.lo),w64 ((w64 (0 - μ3.lo)) * μ2.hi)⟩:Sn)]).length) 2 none),(21,.agg [I μ2.lo,I μ2.hi]),(20,I (w64 (0 - μ3.lo))),(19,I μ3.lo),(18,.lref ν1 0 2 0),(17,I (zl (w64 (0 - μ3.hi)) 0)),(16,I (w64 (0 - μ3.hi))),(15,I μ3.hi),(14,.lref ν1 0 2 1),(4,.lsl ν2 0 μ4.length 2 none),(13,.lsl ν2 0 μ4.length 2 none),(12,.agg [I μ2.lo,I μ2.hi]),(11,I μ3.hi),(10,.lref ν1 0 2 1),(9,I (zl μ3.lo 0)),(8,I μ3.lo),(7,.lref ν1 0 2 0),(3,.sl true [] 0 none),(2,.lref ν1 0 2 0),(0,.agg [I μ3.lo,I μ3.hi]),(1,.ptr (.agg [I μ2.lo,I μ2.hi]))],[(ν1,⟨[.agg [I μ3.lo,I μ3.hi]],2,false⟩),(ν3,⟨[.agg [I μ2.lo,I μ2.hi]],2,false⟩),(ν2,⟨μ4.map Sn.D,2,false⟩),(ν4,⟨[.agg [I μ2.lo,I μ2.hi]],2,false⟩),(ν5,⟨[.agg [I (w64 (μ1 * μ2.lo)),I (w64 ((w64 (0 - μ3.lo)) * μ2.hi))]],2,false⟩),(ν0,⟨(μ0++[(⟨w64 (μ1 * μ2.lo),w64 ((w64 (0 - μ3.lo)) * μ2.hi)⟩:Sn)]).map Sn.D,2,false⟩)],ν6,ν1⟩

def sd40051 (ν0 ν1 ν2 ν3 ν4 ν5 ν6:Nat) (μ0:List Sn) (μ1:Int) (μ2:Sn) (μ3:Sn) (μ4:List Sn):St:=⟨40,[(24,I 0),(23,I (((μ0++[(⟨w64 (μ1 * μ2.lo),w64 (μ1 * μ2.hi)⟩:Sn)]).length:Nat):Int)),(22,.lsl ν0 0 ((μ0++[(⟨w64 (μ1 * μ2.lo),w64 (μ1 * μ2.hi)⟩:Sn)]).length) 2 none),(21,.agg [I μ2.lo,I μ2.hi]),(20,I (w64 (0 - μ3.lo))),(19,I μ3.lo),(18,.lref ν1 0 2 0),(17,I (zl (w64 (0 - μ3.hi)) 0)),(16,I (w64 (0 - μ3.hi))),(15,I μ3.hi),(14,.lref ν1 0 2 1),(4,.lsl ν2 0 μ4.length 2 none),(13,.lsl ν2 0 μ4.length 2 none),(12,.agg [I μ2.lo,I μ2.hi]),(11,I μ3.hi),(10,.lref ν1 0 2 1),(9,I (zl μ3.lo 0)),(8,I μ3.lo),(7,.lref ν1 0 2 0),(3,.sl true [] 0 none),(2,.lref ν1 0 2 0),(0,.agg [I μ3.lo,I μ3.hi]),(1,.ptr (.agg [I μ2.lo,I μ2.hi]))],[(ν1,⟨[.agg [I μ3.lo,I μ3.hi]],2,false⟩),(ν3,⟨[.agg [I μ2.lo,I μ2.hi]],2,false⟩),(ν2,⟨μ4.map Sn.D,2,false⟩),(ν4,⟨[.agg [I μ2.lo,I μ2.hi]],2,false⟩),(ν5,⟨[.agg [I (w64 (μ1 * μ2.lo)),I (w64 (μ1 * μ2.hi))]],2,false⟩),(ν0,⟨(μ0++[(⟨w64 (μ1 * μ2.lo),w64 (μ1 * μ2.hi)⟩:Sn)]).map Sn.D,2,false⟩)],ν6,ν1⟩

def sd40053 (ν0 ν1 ν2 ν3 ν4 ν5:Nat) (μ0:List Sn) (μ1:Sn) (μ2:Sn) (μ3:List Sn):St:=⟨40,[(24,I 0),(23,I ((μ0.length:Nat):Int)),(22,.lsl ν0 0 μ0.length 2 none),(21,.agg [I μ1.lo,I μ1.hi]),(20,I (w64 (0 - μ2.lo))),(19,I μ2.lo),(18,.lref ν1 0 2 0),(17,I (zl (w64 (0 - μ2.hi)) 0)),(16,I (w64 (0 - μ2.hi))),(15,I μ2.hi),(14,.lref ν1 0 2 1),(4,.lsl ν2 0 μ3.length 2 none),(13,.lsl ν2 0 μ3.length 2 none),(12,.agg [I μ1.lo,I μ1.hi]),(11,I μ2.hi),(10,.lref ν1 0 2 1),(9,I (zl μ2.lo 0)),(8,I μ2.lo),(7,.lref ν1 0 2 0),(3,.sl true [] 0 none),(2,.lref ν1 0 2 0),(0,.agg [I μ2.lo,I μ2.hi]),(1,.ptr (.agg [I μ1.lo,I μ1.hi]))],[(ν1,⟨[.agg [I μ2.lo,I μ2.hi]],2,false⟩),(ν3,⟨[.agg [I μ1.lo,I μ1.hi]],2,false⟩),(ν2,⟨μ3.map Sn.D,2,false⟩),(ν4,⟨[.agg [I μ1.lo,I μ1.hi]],2,false⟩),(ν0,⟨μ0.map Sn.D,2,false⟩)],ν5,ν1⟩

def sd40056 (ν0 ν1 ν2:Nat) (μ0:List Sn) (μ1:Sn) (μ2:Sn):St:=⟨40,[(4,.lsl ν0 0 ((μ0++[(⟨w64 (0 - (w64 ((w64 (0 - μ1.lo)) * μ2.hi))),w64 (0 - (w64 ((zl (w64 (0 - μ1.hi)) 0) * μ2.lo)))⟩:Sn)]).length) 2 none),(22,.lsl ν1 0 1 2 none),(23,I 1),(24,I 1)],[(ν0,⟨(μ0++[(⟨w64 (0 - (w64 ((w64 (0 - μ1.lo)) * μ2.hi))),w64 (0 - (w64 ((zl (w64 (0 - μ1.hi)) 0) * μ2.lo)))⟩:Sn)]).map Sn.D,2,false⟩),(ν1,⟨[.agg [I (w64 ((zl (w64 (0 - μ1.hi)) 0) * μ2.lo)),I (w64 ((w64 (0 - μ1.lo)) * μ2.hi))]],2,false⟩)],ν2,ν0⟩

def sd40055 (ν0 ν1 ν2:Nat) (μ0:List Sn) (μ1:Sn) (μ2:Sn):St:=⟨40,[(4,.lsl ν0 0 μ0.length 2 none),(22,.lsl ν1 0 1 2 none),(23,I 1),(24,I 0)],[(ν0,⟨μ0.map Sn.D,2,false⟩),(ν1,⟨[.agg [I (w64 ((zl (w64 (0 - μ1.hi)) 0) * μ2.lo)),I (w64 ((w64 (0 - μ1.lo)) * μ2.hi))]],2,false⟩)],ν2,ν0⟩

def sd40057 (ν0 ν1 ν2 ν3 ν4 ν5:Nat) (μ0:List Sn) (μ1:Sn) (μ2:Sn):St:=⟨40,[(24,I 1),(38,I 1),(4,.lsl ν0 0 ((μ0++[(⟨w64 (0 - (w64 ((w64 (0 - μ1.lo)) * μ2.hi))),w64 (0 - (w64 ((zl (w64 (0 - μ1.hi)) 0) * μ2.lo)))⟩:Sn)]).length) 2 none),(37,.lsl ν0 0 ((μ0++[(⟨w64 (0 - (w64 ((w64 (0 - μ1.lo)) * μ2.hi))),w64 (0 - (w64 ((zl (w64 (0 - μ1.hi)) 0) * μ2.lo)))⟩:Sn)]).length) 2 none),(36,.lsl ν1 0 1 2 (some 1)),(35,.agg [I (w64 (0 - (w64 ((w64 (0 - μ1.lo)) * μ2.hi)))),I (w64 (0 - (w64 ((zl (w64 (0 - μ1.hi)) 0) * μ2.lo))))]),(34,I (w64 (0 - (w64 ((zl (w64 (0 - μ1.hi)) 0) * μ2.lo))))),(33,I (w64 ((zl (w64 (0 - μ1.hi)) 0) * μ2.lo))),(32,.lref ν2 0 2 0),(31,I (w64 (0 - (w64 ((w64 (0 - μ1.lo)) * μ2.hi))))),(30,I (w64 ((w64 (0 - μ1.lo)) * μ2.hi))),(29,.lref ν2 0 2 1),(28,.lsl ν3 0 μ0.length 2 none),(6,.lref ν2 0 2 0),(27,.agg [I (w64 ((zl (w64 (0 - μ1.hi)) 0) * μ2.lo)),I (w64 ((w64 (0 - μ1.lo)) * μ2.hi))]),(26,.lref ν4 0 2 0),(25,B true),(4,.lsl ν3 0 μ0.length 2 none),(22,.lsl ν4 0 1 2 none),(23,I 1),(24,I 0)],[(ν4,⟨[.agg [I (w64 ((zl (w64 (0 - μ1.hi)) 0) * μ2.lo)),I (w64 ((w64 (0 - μ1.lo)) * μ2.hi))]],2,false⟩),(ν2,⟨[.agg [I (w64 ((zl (w64 (0 - μ1.hi)) 0) * μ2.lo)),I (w64 ((w64 (0 - μ1.lo)) * μ2.hi))]],2,false⟩),(ν1,⟨[.agg [I (w64 (0 - (w64 ((w64 (0 - μ1.lo)) * μ2.hi)))),I (w64 (0 - (w64 ((zl (w64 (0 - μ1.hi)) 0) * μ2.lo))))]],2,false⟩),(ν0,⟨(μ0++[(⟨w64 (0 - (w64 ((w64 (0 - μ1.lo)) * μ2.hi))),w64 (0 - (w64 ((zl (w64 (0 - μ1.hi)) 0) * μ2.lo)))⟩:Sn)]).map Sn.D,2,false⟩)],ν5,ν3⟩

def sd40058 (ν0 ν1 ν2:Nat) (μ0:List Sn) (μ1:Sn) (μ2:Sn):St:=⟨40,[(25,B false),(4,.lsl ν0 0 ((μ0++[(⟨w64 (0 - (w64 ((w64 (0 - μ1.lo)) * μ2.hi))),w64 (0 - (w64 ((zl (w64 (0 - μ1.hi)) 0) * μ2.lo)))⟩:Sn)]).length) 2 none),(22,.lsl ν1 0 1 2 none),(23,I 1),(24,I 1)],[(ν0,⟨(μ0++[(⟨w64 (0 - (w64 ((w64 (0 - μ1.lo)) * μ2.hi))),w64 (0 - (w64 ((zl (w64 (0 - μ1.hi)) 0) * μ2.lo)))⟩:Sn)]).map Sn.D,2,false⟩),(ν1,⟨[.agg [I (w64 ((zl (w64 (0 - μ1.hi)) 0) * μ2.lo)),I (w64 ((w64 (0 - μ1.lo)) * μ2.hi))]],2,false⟩)],ν2,ν0⟩

def sd40059 (ν0 ν1 ν2 ν3 ν4 ν5 ν6:Nat) (μ0:Sn) (μ1:Sn) (μ2:List Sn):St:=⟨40,[(24,I 0),(23,I 1),(22,.lsl ν0 0 1 2 none),(21,.agg [I μ0.lo,I μ0.hi]),(20,I (w64 (0 - μ1.lo))),(19,I μ1.lo),(18,.lref ν1 0 2 0),(17,I (zl (w64 (0 - μ1.hi)) 0)),(16,I (w64 (0 - μ1.hi))),(15,I μ1.hi),(14,.lref ν1 0 2 1),(4,.lsl ν2 0 μ2.length 2 none),(13,.lsl ν2 0 μ2.length 2 none),(12,.agg [I μ0.lo,I μ0.hi]),(11,I μ1.hi),(10,.lref ν1 0 2 1),(9,I (zl μ1.lo 0)),(8,I μ1.lo),(7,.lref ν1 0 2 0),(3,.sl true [] 0 none),(2,.lref ν1 0 2 0),(0,.agg [I μ1.lo,I μ1.hi]),(1,.ptr (.agg [I μ0.lo,I μ0.hi]))],[(ν1,⟨[.agg [I μ1.lo,I μ1.hi]],2,false⟩),(ν3,⟨[.agg [I μ0.lo,I μ0.hi]],2,false⟩),(ν2,⟨μ2.map Sn.D,2,false⟩),(ν4,⟨[.agg [I μ0.lo,I μ0.hi]],2,false⟩),(ν5,⟨[.agg [I (w64 ((zl (w64 (0 - μ1.hi)) 0) * μ0.lo)),I (w64 ((w64 (0 - μ1.lo)) * μ0.hi))]],2,false⟩),(ν0,⟨[.agg [I (w64 ((zl (w64 (0 - μ1.hi)) 0) * μ0.lo)),I (w64 ((w64 (0 - μ1.lo)) * μ0.hi))]],2,false⟩)],ν6,ν1⟩

def sd40060 (ν0 ν1 ν2 ν3 ν4:Nat) (μ0:Sn) (μ1:Sn) (μ2:List Sn):St:=⟨40,[(24,I 0),(23,I 0),(22,.sl true [] 0 none),(21,.agg [I μ0.lo,I μ0.hi]),(20,I (w64 (0 - μ1.lo))),(19,I μ1.lo),(18,.lref ν0 0 2 0),(17,I (zl (w64 (0 - μ1.hi)) 0)),(16,I (w64 (0 - μ1.hi))),(15,I μ1.hi),(14,.lref ν0 0 2 1),(4,.lsl ν1 0 μ2.length 2 none),(13,.lsl ν1 0 μ2.length 2 none),(12,.agg [I μ0.lo,I μ0.hi]),(11,I μ1.hi),(10,.lref ν0 0 2 1),(9,I (zl μ1.lo 0)),(8,I μ1.lo),(7,.lref ν0 0 2 0),(3,.sl true [] 0 none),(2,.lref ν0 0 2 0),(0,.agg [I μ1.lo,I μ1.hi]),(1,.ptr (.agg [I μ0.lo,I μ0.hi]))],[(ν0,⟨[.agg [I μ1.lo,I μ1.hi]],2,false⟩),(ν2,⟨[.agg [I μ0.lo,I μ0.hi]],2,false⟩),(ν1,⟨μ2.map Sn.D,2,false⟩),(ν3,⟨[.agg [I μ0.lo,I μ0.hi]],2,false⟩)],ν4,ν0⟩

def sd40061 (ν0 ν1 ν2 ν3:Nat) (μ0:Sn) (μ1:Sn):St:=⟨54,[(6,.lsl ν0 0 1 2 none),(37,.lsl ν0 0 1 2 none),(36,.lsl ν1 0 1 2 (some 1)),(35,.agg [I (w64 ((zl μ0.lo 0) * μ1.lo)),I (w64 (μ0.hi * μ1.hi))]),(34,I (w64 (μ0.hi * μ1.hi))),(33,I μ1.hi),(32,.lref ν2 0 2 1),(31,I μ0.hi),(30,I (w64 ((zl μ0.lo 0) * μ1.lo))),(29,I μ1.lo),(28,.lref ν2 0 2 0),(27,I (zl μ0.lo 0)),(26,.sl true [] 0 none),(25,B true),(24,I (w64 (μ1.lo - 1))),(23,I μ1.lo),(22,.lref ν2 0 2 0),(21,I (w64 ((zl μ0.lo 0) * (w64 (μ1.hi - μ1.lo))))),(20,I (w64 (μ1.hi - μ1.lo))),(19,I μ1.lo),(18,.lref ν2 0 2 0),(17,I μ1.hi),(16,.lref ν2 0 2 1),(15,I (zl μ0.lo 0)),(12,B true),(11,I μ0.hi),(10,I (zl μ0.lo 0)),(1,I μ0.hi),(5,.lref ν2 0 2 0),(7,.sl true [] 0 none),(8,I (zl μ0.lo 0))],[(ν2,⟨[.agg [I μ1.lo,I μ1.hi]],2,false⟩),(ν1,⟨[.agg [I (w64 ((zl μ0.lo 0) * μ1.lo)),I (w64 (μ0.hi * μ1.hi))]],2,false⟩),(ν0,⟨[.agg [I (w64 ((zl μ0.lo 0) * μ1.lo)),I (w64 (μ0.hi * μ1.hi))]],2,false⟩)],ν3,ν2⟩

def sd40062 (ν0 ν1 ν2 ν3 ν4 ν5 ν6 ν7:Nat) (μ0:List Sn) (μ1:Int) (μ2:Sn) (μ3:Sn):St:=⟨40,[(24,I 0),(23,I (((μ0++[(⟨w64 (μ1 * μ2.lo),w64 ((w64 (0 - μ3.lo)) * μ2.hi)⟩:Sn)]).length:Nat):Int)),(22,.lsl ν0 0 ((μ0++[(⟨w64 (μ1 * μ2.lo),w64 ((w64 (0 - μ3.lo)) * μ2.hi)⟩:Sn)]).length) 2 none),(21,.agg [I μ2.lo,I μ2.hi]),(20,I (w64 (0 - μ3.lo))),(19,I μ3.lo),(18,.lref ν1 0 2 0),(17,I (zl (w64 (0 - μ3.hi)) 0)),(16,I (w64 (0 - μ3.hi))),(15,I μ3.hi),(14,.lref ν1 0 2 1),(4,.lsl ν2 0 1 2 none),(13,.lsl ν2 0 1 2 none),(12,.agg [I μ2.lo,I μ2.hi]),(11,I μ3.hi),(10,.lref ν1 0 2 1),(9,I (zl μ3.lo 0)),(8,I μ3.lo),(7,.lref ν1 0 2 0),(3,.sl true [] 0 none),(2,.lref ν1 0 2 0),(0,.agg [I μ3.lo,I μ3.hi]),(1,.ptr (.agg [I μ2.lo,I μ2.hi]))],[(ν1,⟨[.agg [I μ3.lo,I μ3.hi]],2,false⟩),(ν3,⟨[.agg [I μ2.lo,I μ2.hi]],2,false⟩),(ν4,⟨[.agg [I (w64 ((zl μ3.lo 0) * μ2.lo)),I (w64 (μ3.hi * μ2.hi))]],2,false⟩),(ν2,⟨[.agg [I (w64 ((zl μ3.lo 0) * μ2.lo)),I (w64 (μ3.hi * μ2.hi))]],2,false⟩),(ν5,⟨[.agg [I μ2.lo,I μ2.hi]],2,false⟩),(ν6,⟨[.agg [I (w64 (μ1 * μ2.lo)),I (w64 ((w64 (0 - μ3.lo)) * μ2.hi))]],2,false⟩),(ν0,⟨(μ0++[(⟨w64 (μ1 * μ2.lo),w64 ((w64 (0 - μ3.lo)) * μ2.hi)⟩:Sn)]).map Sn.D,2,false⟩)],ν7,ν1⟩

def sd40064 (ν0 ν1 ν2 ν3 ν4 ν5 ν6 ν7:Nat) (μ0:List Sn) (μ1:Int) (μ2:Sn) (μ3:Sn):St:=⟨40,[(24,I 0),(23,I (((μ0++[(⟨w64 (μ1 * μ2.lo),w64 (μ1 * μ2.hi)⟩:Sn)]).length:Nat):Int)),(22,.lsl ν0 0 ((μ0++[(⟨w64 (μ1 * μ2.lo),w64 (μ1 * μ2.hi)⟩:Sn)]).length) 2 none),(21,.agg [I μ2.lo,I μ2.hi]),(20,I (w64 (0 - μ3.lo))),(19,I μ3.lo),(18,.lref ν1 0 2 0),(17,I (zl (w64 (0 - μ3.hi)) 0)),(16,I (w64 (0 - μ3.hi))),(15,I μ3.hi),(14,.lref ν1 0 2 1),(4,.lsl ν2 0 1 2 none),(13,.lsl ν2 0 1 2 none),(12,.agg [I μ2.lo,I μ2.hi]),(11,I μ3.hi),(10,.lref ν1 0 2 1),(9,I (zl μ3.lo 0)),(8,I μ3.lo),(7,.lref ν1 0 2 0),(3,.sl true [] 0 none),(2,.lref ν1 0 2 0),(0,.agg [I μ3.lo,I μ3.hi]),(1,.ptr (.agg [I μ2.lo,I μ2.hi]))],[(ν1,⟨[.agg [I μ3.lo,I μ3.hi]],2,false⟩),(ν3,⟨[.agg [I μ2.lo,I μ2.hi]],2,false⟩),(ν4,⟨[.agg [I (w64 ((zl μ3.lo 0) * μ2.lo)),I (w64 (μ3.hi * μ2.hi))]],2,false⟩),(ν2,⟨[.agg [I (w64 ((zl μ3.lo 0) * μ2.lo)),I (w64 (μ3.hi * μ2.hi))]],2,false⟩),(ν5,⟨[.agg [I μ2.lo,I μ2.hi]],2,false⟩),(ν6,⟨[.agg [I (w64 (μ1 * μ2.lo)),I (w64 (μ1 * μ2.hi))]],2,false⟩),(ν0,⟨(μ0++[(⟨w64 (μ1 * μ2.lo),w64 (μ1 * μ2.hi)⟩:Sn)]).map Sn.D,2,false⟩)],ν7,ν1⟩

def sd40066 (ν0 ν1 ν2 ν3 ν4 ν5 ν6:Nat) (μ0:List Sn) (μ1:Sn) (μ2:Sn):St:=⟨40,[(24,I 0),(23,I ((μ0.length:Nat):Int)),(22,.lsl ν0 0 μ0.length 2 none),(21,.agg [I μ1.lo,I μ1.hi]),(20,I (w64 (0 - μ2.lo))),(19,I μ2.lo),(18,.lref ν1 0 2 0),(17,I (zl (w64 (0 - μ2.hi)) 0)),(16,I (w64 (0 - μ2.hi))),(15,I μ2.hi),(14,.lref ν1 0 2 1),(4,.lsl ν2 0 1 2 none),(13,.lsl ν2 0 1 2 none),(12,.agg [I μ1.lo,I μ1.hi]),(11,I μ2.hi),(10,.lref ν1 0 2 1),(9,I (zl μ2.lo 0)),(8,I μ2.lo),(7,.lref ν1 0 2 0),(3,.sl true [] 0 none),(2,.lref ν1 0 2 0),(0,.agg [I μ2.lo,I μ2.hi]),(1,.ptr (.agg [I μ1.lo,I μ1.hi]))],[(ν1,⟨[.agg [I μ2.lo,I μ2.hi]],2,false⟩),(ν3,⟨[.agg [I μ1.lo,I μ1.hi]],2,false⟩),(ν4,⟨[.agg [I (w64 ((zl μ2.lo 0) * μ1.lo)),I (w64 (μ2.hi * μ1.hi))]],2,false⟩),(ν2,⟨[.agg [I (w64 ((zl μ2.lo 0) * μ1.lo)),I (w64 (μ2.hi * μ1.hi))]],2,false⟩),(ν5,⟨[.agg [I μ1.lo,I μ1.hi]],2,false⟩),(ν0,⟨μ0.map Sn.D,2,false⟩)],ν6,ν1⟩

def sd40069 (ν0 ν1 ν2:Nat) (μ0:Sn) (μ1:Sn):St:=⟨40,[(4,.lsl ν0 0 2 2 none),(22,.lsl ν1 0 1 2 none),(23,I 1),(24,I 1)],[(ν0,⟨[.agg [I (w64 ((zl μ0.lo 0) * μ1.lo)),I (w64 (μ0.hi * μ1.hi))],.agg [I (w64 (0 - (w64 ((w64 (0 - μ0.lo)) * μ1.hi)))),I (w64 (0 - (w64 ((zl (w64 (0 - μ0.hi)) 0) * μ1.lo))))]],2,false⟩),(ν1,⟨[.agg [I (w64 ((zl (w64 (0 - μ0.hi)) 0) * μ1.lo)),I (w64 ((w64 (0 - μ0.lo)) * μ1.hi))]],2,false⟩)],ν2,ν0⟩

def sd40068 (ν0 ν1 ν2:Nat) (μ0:Sn) (μ1:Sn):St:=⟨40,[(4,.lsl ν0 0 1 2 none),(22,.lsl ν1 0 1 2 none),(23,I 1),(24,I 0)],[(ν0,⟨[.agg [I (w64 ((zl μ0.lo 0) * μ1.lo)),I (w64 (μ0.hi * μ1.hi))]],2,false⟩),(ν1,⟨[.agg [I (w64 ((zl (w64 (0 - μ0.hi)) 0) * μ1.lo)),I (w64 ((w64 (0 - μ0.lo)) * μ1.hi))]],2,false⟩)],ν2,ν0⟩

def sd40070 (ν0 ν1 ν2:Nat) (μ0:Sn) (μ1:Sn):St:=⟨40,[(25,B false),(4,.lsl ν0 0 2 2 none),(22,.lsl ν1 0 1 2 none),(23,I 1),(24,I 1)],[(ν0,⟨[.agg [I (w64 ((zl μ0.lo 0) * μ1.lo)),I (w64 (μ0.hi * μ1.hi))],.agg [I (w64 (0 - (w64 ((w64 (0 - μ0.lo)) * μ1.hi)))),I (w64 (0 - (w64 ((zl (w64 (0 - μ0.hi)) 0) * μ1.lo))))]],2,false⟩),(ν1,⟨[.agg [I (w64 ((zl (w64 (0 - μ0.hi)) 0) * μ1.lo)),I (w64 ((w64 (0 - μ0.lo)) * μ1.hi))]],2,false⟩)],ν2,ν0⟩

def sd40072 (ν0 ν1:Nat) (μ0:Sn) (μ1:Sn):St:=⟨40,[(25,B false),(4,.lsl ν0 0 1 2 none),(22,.sl true [] 0 none),(23,I 0),(24,I 0)],[(ν0,⟨[.agg [I (w64 ((zl μ0.lo 0) * μ1.lo)),I (w64 (μ0.hi * μ1.hi))]],2,false⟩)],ν1,ν0⟩

def sd40071 (ν0 ν1:Nat) (μ0:Sn) (μ1:Sn):St:=⟨40,[(4,.lsl ν0 0 1 2 none),(22,.sl true [] 0 none),(23,I 0),(24,I 0)],[(ν0,⟨[.agg [I (w64 ((zl μ0.lo 0) * μ1.lo)),I (w64 (μ0.hi * μ1.hi))]],2,false⟩)],ν1,ν0⟩

def sd40073 (ν0 ν1:Nat) (μ0:Sn) (μ1:Sn):St:=⟨54,[(12,B false),(11,I μ0.hi),(10,I (zl μ0.lo 0)),(1,I μ0.hi),(5,.lref ν0 0 2 0),(7,.sl true [] 0 none),(8,I (zl μ0.lo 0))],[(ν0,⟨[.agg [I μ1.lo,I μ1.hi]],2,false⟩)],ν1,ν0⟩

def sd40076 (ν0 ν1 ν2 ν3 ν4 ν5:Nat) (μ0:List Sn) (μ1:Int) (μ2:Sn) (μ3:Sn):St:=⟨40,[(24,I 0),(23,I (((μ0++[(⟨w64 (μ1 * μ2.lo),w64 ((w64 (0 - μ3.lo)) * μ2.hi)⟩:Sn)]).length:Nat):Int)),(22,.lsl ν0 0 ((μ0++[(⟨w64 (μ1 * μ2.lo),w64 ((w64 (0 - μ3.lo)) * μ2.hi)⟩:Sn)]).length) 2 none),(21,.agg [I μ2.lo,I μ2.hi]),(20,I (w64 (0 - μ3.lo))),(19,I μ3.lo),(18,.lref ν1 0 2 0),(17,I (zl (w64 (0 - μ3.hi)) 0)),(16,I (w64 (0 - μ3.hi))),(15,I μ3.hi),(14,.lref ν1 0 2 1),(4,.sl true [] 0 none),(13,.sl true [] 0 none),(12,.agg [I μ2.lo,I μ2.hi]),(11,I μ3.hi),(10,.lref ν1 0 2 1),(9,I (zl μ3.lo 0)),(8,I μ3.lo),(7,.lref ν1 0 2 0),(3,.sl true [] 0 none),(2,.lref ν1 0 2 0),(0,.agg [I μ3.lo,I μ3.hi]),(1,.ptr (.agg [I μ2.lo,I μ2.hi]))],[(ν1,⟨[.agg [I μ3.lo,I μ3.hi]],2,false⟩),(ν2,⟨[.agg [I μ2.lo,I μ2.hi]],2,false⟩),(ν3,⟨[.agg [I μ2.lo,I μ2.hi]],2,false⟩),(ν4,⟨[.agg [I (w64 (μ1 * μ2.lo)),I (w64 ((w64 (0 - μ3.lo)) * μ2.hi))]],2,false⟩),(ν0,⟨(μ0++[(⟨w64 (μ1 * μ2.lo),w64 ((w64 (0 - μ3.lo)) * μ2.hi)⟩:Sn)]).map Sn.D,2,false⟩)],ν5,ν1⟩

def sd40077 (ν0 ν1:Nat) (μ0:List Sn) (μ1:Int) (μ2:Sn) (μ3:Sn):St:=⟨40,[(4,.sl true [] 0 none),(22,.lsl ν0 0 ((μ0++[(⟨w64 (μ1 * μ2.lo),w64 ((w64 (0 - μ3.lo)) * μ2.hi)⟩:Sn)]).length) 2 none),(23,I (((μ0++[(⟨w64 (μ1 * μ2.lo),w64 ((w64 (0 - μ3.lo)) * μ2.hi)⟩:Sn)]).length:Nat):Int)),(24,I 0)],[(ν0,⟨(μ0++[(⟨w64 (μ1 * μ2.lo),w64 ((w64 (0 - μ3.lo)) * μ2.hi)⟩:Sn)]).map Sn.D,2,false⟩)],ν1,ν0⟩

def sd40078 (ν0 ν1:Nat) (μ0:List Sn) (μ1:Int) (μ2:Sn) (μ3:Sn):St:=⟨40,[(25,B false),(4,.sl true [] 0 none),(22,.lsl ν0 0 ((μ0++[(⟨w64 (μ1 * μ2.lo),w64 ((w64 (0 - μ3.lo)) * μ2.hi)⟩:Sn)]).length) 2 none),(23,I (((μ0++[(⟨w64 (μ1 * μ2.lo),w64 ((w64 (0 - μ3.lo)) * μ2.hi)⟩:Sn)]).length:Nat):Int)),(24,I (((μ0++[(⟨w64 (μ1 * μ2.lo),w64 ((w64 (0 - μ3.lo)) * μ2.hi)⟩:Sn)]).length:Nat):Int))],[(ν0,⟨(μ0++[(⟨w64 (μ1 * μ2.lo),w64 ((w64 (0 - μ3.lo)) * μ2.hi)⟩:Sn)]).map Sn.D,2,false⟩)],ν1,ν0⟩

def sd40079 (ν0 ν1 ν2 ν3 ν4 ν5:Nat) (μ0:List Sn) (μ1:Int) (μ2:Sn) (μ3:Sn):St:=⟨40,[(24,I 0),(23,I (((μ0++[(⟨w64 (μ1 * μ2.lo),w64 (μ1 * μ2.hi)⟩:Sn)]).length:Nat):Int)),(22,.lsl ν0 0 ((μ0++[(⟨w64 (μ1 * μ2.lo),w64 (μ1 * μ2.hi)⟩:Sn)]).length) 2 none),(21,.agg [I μ2.lo,I μ2.hi]),(20,I (w64 (0 - μ3.lo))),(19,I μ3.lo),(18,.lref ν1 0 2 0),(17,I (zl (w64 (0 - μ3.hi)) 0)),(16,I (w64 (0 - μ3.hi))),(15,I μ3.hi),(14,.lref ν1 0 2 1),(4,.sl true [] 0 none),(13,.sl true [] 0 none),(12,.agg [I μ2.lo,I μ2.hi]),(11,I μ3.hi),(10,.lref ν1 0 2 1),(9,I (zl μ3.lo 0)),(8,I μ3.lo),(7,.lref ν1 0 2 0),(3,.sl true [] 0 none),(2,.lref ν1 0 2 0),(0,.agg [I μ3.lo,I μ3.hi]),(1,.ptr (.agg [I μ2.lo,I μ2.hi]))],[(ν1,⟨[.agg [I μ3.lo,I μ3.hi]],2,false⟩),(ν2,⟨[.agg [I μ2.lo,I μ2.hi]],2,false⟩),(ν3,⟨[.agg [I μ2.lo,I μ2.hi]],2,false⟩),(ν4,⟨[.agg [I (w64 (μ1 * μ2.lo)),I (w64 (μ1 * μ2.hi))]],2,false⟩),(ν0,⟨(μ0++[(⟨w64 (μ1 * μ2.lo),w64 (μ1 * μ2.hi)⟩:Sn)]).map Sn.D,2,false⟩)],ν5,ν1⟩

def sd40080 (ν0 ν1:Nat) (μ0:List Sn) (μ1:Int) (μ2:Sn):St:=⟨40,[(4,.sl true [] 0 none),(22,.lsl ν0 0 ((μ0++[(⟨w64 (μ1 * μ2.lo),w64 (μ1 * μ2.hi)⟩:Sn)]).length) 2 none),(23,I (((μ0++[(⟨w64 (μ1 * μ2.lo),w64 (μ1 * μ2.hi)⟩:Sn)]).length:Nat):Int)),(24,I 0)],[(ν0,⟨(μ0++[(⟨w64 (μ1 * μ2.lo),w64 (μ1 * μ2.hi)⟩:Sn)]).map Sn.D,2,false⟩)],ν1,ν0⟩

def sd40081 (ν0 ν1:Nat) (μ0:List Sn) (μ1:Int) (μ2:Sn):St:=⟨40,[(25,B false),(4,.sl true [] 0 none),(22,.lsl ν0 0 ((μ0++[(⟨w64 (μ1 * μ2.lo),w64 (μ1 * μ2.hi)⟩:Sn)]).length) 2 none),(23,I (((μ0++[(⟨w64 (μ1 * μ2.lo),w64 (μ1 * μ2.hi)⟩:Sn)]).length:Nat):Int)),(24,I (((μ0++[(⟨w64 (μ1 * μ2.lo),w64 (μ1 * μ2.hi)⟩:Sn)]).length:Nat):Int))],[(ν0,⟨(μ0++[(⟨w64 (μ1 * μ2.lo),w64 (μ1 * μ2.hi)⟩:Sn)]).map Sn.D,2,false⟩)],ν1,ν0⟩

def sd40082 (ν0 ν1 ν2 ν3 ν4:Nat) (μ0:List Sn) (μ1:Sn) (μ2:Sn):St:=⟨40,[(24,I 0),(23,I ((μ0.length:Nat):Int)),(22,.lsl ν0 0 μ0.length 2 none),(21,.agg [I μ1.lo,I μ1.hi]),(20,I (w64 (0 - μ2.lo))),(19,I μ2.lo),(18,.lref ν1 0 2 0),(17,I (zl (w64 (0 - μ2.hi)) 0)),(16,I (w64 (0 - μ2.hi))),(15,I μ2.hi),(14,.lref ν1 0 2 1),(4,.sl true [] 0 none),(13,.sl true [] 0 none),(12,.agg [I μ1.lo,I μ1.hi]),(11,I μ2.hi),(10,.lref ν1 0 2 1),(9,I (zl μ2.lo 0)),(8,I μ2.lo),(7,.lref ν1 0 2 0),(3,.sl true [] 0 none),(2,.lref ν1 0 2 0),(0,.agg [I μ2.lo,I μ2.hi]),(1,.ptr (.agg [I μ1.lo,I μ1.hi]))],[(ν1,⟨[.agg [I μ2.lo,I μ2.hi]],2,false⟩),(ν2,⟨[.agg [I μ1.lo,I μ1.hi]],2,false⟩),(ν3,⟨[.agg [I μ1.lo,I μ1.hi]],2,false⟩),(ν0,⟨μ0.map Sn.D,2,false⟩)],ν4,ν1⟩

def sd40083 (ν0 ν1:Nat) (μ0:List Sn):St:=⟨40,[(4,.sl true [] 0 none),(22,.lsl ν0 0 μ0.length 2 none),(23,I ((μ0.length:Nat):Int)),(24,I 0)],[(ν0,⟨μ0.map Sn.D,2,false⟩)],ν1,ν0⟩

def sd40085 (ν0 ν1 ν2:Nat) (μ0:Sn) (μ1:Sn):St:=⟨40,[(4,.lsl ν0 0 1 2 none),(22,.lsl ν1 0 1 2 none),(23,I 1),(24,I 1)],[(ν0,⟨[.agg [I (w64 (0 - (w64 ((w64 (0 - μ0.lo)) * μ1.hi)))),I (w64 (0 - (w64 ((zl (w64 (0 - μ0.hi)) 0) * μ1.lo))))]],2,false⟩),(ν1,⟨[.agg [I (w64 ((zl (w64 (0 - μ0.hi)) 0) * μ1.lo)),I (w64 ((w64 (0 - μ0.lo)) * μ1.hi))]],2,false⟩)],ν2,ν0⟩

def sd40084 (ν0 ν1:Nat) (μ0:Sn) (μ1:Sn):St:=⟨40,[(4,.sl true [] 0 none),(22,.lsl ν0 0 1 2 none),(23,I 1),(24,I 0)],[(ν0,⟨[.agg [I (w64 ((zl (w64 (0 - μ0.hi)) 0) * μ1.lo)),I (w64 ((w64 (0 - μ0.lo)) * μ1.hi))]],2,false⟩)],ν1,ν0⟩

def sd40086 (ν0 ν1 ν2:Nat) (μ0:Sn) (μ1:Sn):St:=⟨40,[(25,B false),(4,.lsl ν0 0 1 2 none),(22,.lsl ν1 0 1 2 none),(23,I 1),(24,I 1)],[(ν0,⟨[.agg [I (w64 (0 - (w64 ((w64 (0 - μ0.lo)) * μ1.hi)))),I (w64 (0 - (w64 ((zl (w64 (0 - μ0.hi)) 0) * μ1.lo))))]],2,false⟩),(ν1,⟨[.agg [I (w64 ((zl (w64 (0 - μ0.hi)) 0) * μ1.lo)),I (w64 ((w64 (0 - μ0.lo)) * μ1.hi))]],2,false⟩)],ν2,ν0⟩

theorem T_ranges_Times_1 (x:Sn) (k:Sn) (hx:-1099511627776≤x.lo∧x.lo≤x.hi∧x.hi≤1099511627776):(lim cfg).pure 71 [Sn.D x,.ptr (Sn.D k)]=some (GS.D Sn.D 2 (z8 x k)):=by
 unfold z8
 cases h13:yz x k (zl x.lo 0) 2051 with
 | x0 yP yS =>
  try dsimp only
  have hv_h13:=ivt_ranges_products_3 x k (zl x.lo 0) 2051 (ranges_products_3_ne _ _ _)
  rw [h13] at hv_h13
  have hv_h13_0:=hv_h13
  try dsimp only [iv_ranges_products_3] at hv_h13_0
  have p1:=(show (lim cfg).inl 72 [I (zl x.lo 0),I x.hi,.agg [I k.lo,I k.hi]] [] 1=some (.lsl 4 0 ((yP++[(⟨w64 (yS * k.lo),w64 (x.hi * k.hi)⟩:Sn)]).length) 2 none,[(1,⟨[.agg [I k.lo,I k.hi]],2,false⟩),(3,⟨[.agg [I (w64 (yS * k.lo)),I (w64 (x.hi * k.hi))]],2,false⟩),(4,⟨(yP++[(⟨w64 (yS * k.lo),w64 (x.hi * k.hi)⟩:Sn)]).map Sn.D,2,false⟩)],5) from zH [.loop .ret (sd40000 4 3 1 2 5 yP yS k x)] (Ai (zF (q:=lr_ranges_products_3 x k (zl x.lo 0)) (lp_ranges_products_3 x k (zl x.lo 0) 2051 (ranges_products_3_ne _ _ _)) h13) trivial) (by kernel_rfl))
  cases h26:zR k (w64 (0 - x.lo)) (zl (w64 (0 - x.hi)) 0) 2051 with
  | x0 yO yN =>
   try dsimp only
   have hv_h26:=ivt_ranges_products_3p1 k (w64 (0 - x.lo)) (zl (w64 (0 - x.hi)) 0) 2051 (zC _ _ _)
   rw [h26] at hv_h26
   have hv_h26_0:=hv_h26
   try dsimp only [iv_ranges_products_3p1] at hv_h26_0
   have p2:=(show (lim cfg).inl 72 [I (zl (w64 (0 - x.hi)) 0),I (w64 (0 - x.lo)),.agg [I k.lo,I k.hi]] [] 5=some (.lsl 8 0 ((yO++[(⟨w64 (yN * k.lo),w64 ((w64 (0 - x.lo)) * k.hi)⟩:Sn)]).length) 2 none,[(5,⟨[.agg [I k.lo,I k.hi]],2,false⟩),(7,⟨[.agg [I (w64 (yN * k.lo)),I (w64 ((w64 (0 - x.lo)) * k.hi))]],2,false⟩),(8,⟨(yO++[(⟨w64 (yN * k.lo),w64 ((w64 (0 - x.lo)) * k.hi)⟩:Sn)]).map Sn.D,2,false⟩)],9) from zH [.loop .ret (sd40012 8 7 5 6 9 yO yN k x)] (Ai (zF (q:=y7 k (w64 (0 - x.lo)) (zl (w64 (0 - x.hi)) 0)) (lp_ranges_products_3p1 k (w64 (0 - x.lo)) (zl (w64 (0 - x.hi)) 0) 2051 (zC _ _ _)) h26) trivial) (by kernel_rfl))
   have p3:=(gc_of (C:=cfg) (f:=71) (a:=lp71_3) (ks:=[4,22,23,24]) (st:=(sd40015 8 0 4 1 3 5 7 9 yO yN k x yP yS)) (st1:=(sd40016 0 1 2 yP yS k x yO yN)) (by kernel_rfl) (by (simp only [sd40015,sd40016,go_sem,List.length_set,Nat.reduceAdd,Nat.reduceEqDiff,Nat.reduceLT,Nat.reduceLeDiff,bI2,zc.idsL,zc.renL,zc.snapAll,z7.idsL,z7.renL,z7.snapAll]) <;> rfl))
   cases h27:zD (yO++[(⟨w64 (yN * k.lo),w64 ((w64 (0 - x.lo)) * k.hi)⟩:Sn)]) (yP++[(⟨w64 (yS * k.lo),w64 (x.hi * k.hi)⟩:Sn)]) with
   | x0 xp =>
    try dsimp only
    have hv_h27:=ivt_ranges_Times_1_3 (yO++[(⟨w64 (yN * k.lo),w64 ((w64 (0 - x.lo)) * k.hi)⟩:Sn)]) (yO++[(⟨w64 (yN * k.lo),w64 ((w64 (0 - x.lo)) * k.hi)⟩:Sn)]) 0 (yP++[(⟨w64 (yS * k.lo),w64 (x.hi * k.hi)⟩:Sn)]) (List.drop_zero) (Nat.zero_le _) (by simp only [List.length_append,List.length_cons,List.length_nil] at * <;> omega) (by simp only [List.length_append,List.length_cons,List.length_nil] at * <;> omega) (by simp only [List.length_append,List.length_cons,List.length_nil] at * <;> omega)
    rw [h27] at hv_h27
    have hv_h27_0:=hv_h27
    try dsimp only [iv_ranges_Times_1_3] at hv_h27_0
    exact po_pureS ((ranges_Times_1_o1 x k yP yS)++((ranges_Times_1_o2 x k yP yS yO yN xp)++[])) [(0,.sl false (xp.map Sn.D) 2 none,[0])] (Ai (snap_row (gO:=zt [(0,⟨xp.map Sn.D,2,false⟩),(1,⟨(yO++[(⟨w64 (yN * k.lo),w64 ((w64 (0 - x.lo)) * k.hi)⟩:Sn)]).map Sn.D,2,false⟩)]) (o:=0) (len:=xp.length) (cap:=none) (fz:=false) z7 xp (by kernel_rfl) (by omega)) (Ai (zF (q:=lr_ranges_Times_1_3 (yO++[(⟨w64 (yN * k.lo),w64 ((w64 (0 - x.lo)) * k.hi)⟩:Sn)])) (lp_ranges_Times_1_3 (yO++[(⟨w64 (yN * k.lo),w64 ((w64 (0 - x.lo)) * k.hi)⟩:Sn)]) (yO++[(⟨w64 (yN * k.lo),w64 ((w64 (0 - x.lo)) * k.hi)⟩:Sn)]) 0 (yP++[(⟨w64 (yS * k.lo),w64 (x.hi * k.hi)⟩:Sn)]) (List.drop_zero) (Nat.zero_le _) (by simp only [List.length_append,List.length_cons,List.length_nil] at * <;> omega) (by simp only [List.length_append,List.length_cons,List.length_nil] at * <;> omega) (by simp only [List.length_append,List.length_cons,List.length_nil] at * <;> omega)) h27) (Ai p3 (Ai p2 (Ai p1 trivial))))) (by kernel_rfl)
  | x1 yO yN =>
   try dsimp only
   have hv_h26:=ivt_ranges_products_3p1 k (w64 (0 - x.lo)) (zl (w64 (0 - x.hi)) 0) 2051 (zC _ _ _)
   rw [h26] at hv_h26
   have hv_h26_0:=hv_h26
   try dsimp only [iv_ranges_products_3p1] at hv_h26_0
   have p4:=(show (lim cfg).inl 72 [I (zl (w64 (0 - x.hi)) 0),I (w64 (0 - x.lo)),.agg [I k.lo,I k.hi]] [] 5=some (.lsl 8 0 ((yO++[(⟨w64 (yN * k.lo),w64 (yN * k.hi)⟩:Sn)]).length) 2 none,[(5,⟨[.agg [I k.lo,I k.hi]],2,false⟩),(7,⟨[.agg [I (w64 (yN * k.lo)),I (w64 (yN * k.hi))]],2,false⟩),(8,⟨(yO++[(⟨w64 (yN * k.lo),w64 (yN * k.hi)⟩:Sn)]).map Sn.D,2,false⟩)],9) from zH [.loop (.exit 0) (sd40018 8 7 5 6 9 yO yN k x)] (Ai (zF (q:=y7 k (w64 (0 - x.lo)) (zl (w64 (0 - x.hi)) 0)) (lp_ranges_products_3p1 k (w64 (0 - x.lo)) (zl (w64 (0 - x.hi)) 0) 2051 (zC _ _ _)) h26) trivial) (by kernel_rfl))
   have p5:=(gc_of (C:=cfg) (f:=71) (a:=lp71_3) (ks:=[4,22,23,24]) (st:=(sd40019 8 0 4 1 3 5 7 9 yO yN k x yP yS)) (st1:=(sd40020 0 1 2 yP yS k x yO yN)) (by kernel_rfl) (by (simp only [sd40019,sd40020,go_sem,List.length_set,Nat.reduceAdd,Nat.reduceEqDiff,Nat.reduceLT,Nat.reduceLeDiff,bI2,zc.idsL,zc.renL,zc.snapAll,z7.idsL,z7.renL,z7.snapAll]) <;> rfl))
   cases h28:zD (yO++[(⟨w64 (yN * k.lo),w64 (yN * k.hi)⟩:Sn)]) (yP++[(⟨w64 (yS * k.lo),w64 (x.hi * k.hi)⟩:Sn)]) with
   | x0 xp =>
    try dsimp only
    have xH:=ivt_ranges_Times_1_3 (yO++[(⟨w64 (yN * k.lo),w64 (yN * k.hi)⟩:Sn)]) (yO++[(⟨w64 (yN * k.lo),w64 (yN * k.hi)⟩:Sn)]) 0 (yP++[(⟨w64 (yS * k.lo),w64 (x.hi * k.hi)⟩:Sn)]) (List.drop_zero) (Nat.zero_le _) (by simp only [List.length_append,List.length_cons,List.length_nil] at * <;> omega) (by simp only [List.length_append,List.length_cons,List.length_nil] at * <;> omega) (by simp only [List.length_append,List.length_cons,List.length_nil] at * <;> omega)
    rw [h28] at xH
    have xF:=xH
    try dsimp only [iv_ranges_Times_1_3] at xF
    exact po_pureS ((ranges_Times_1_o1 x k yP yS)++((ranges_Times_1_o3 x k yP yS yO yN xp)++[])) [(0,.sl false (xp.map Sn.D) 2 none,[0])] (Ai (snap_row (gO:=zt [(0,⟨xp.map Sn.D,2,false⟩),(1,⟨(yO++[(⟨w64 (yN * k.lo),w64 (yN * k.hi)⟩:Sn)]).map Sn.D,2,false⟩)]) (o:=0) (len:=xp.length) (cap:=none) (fz:=false) z7 xp (by kernel_rfl) (by omega)) (Ai (zF (q:=lr_ranges_Times_1_3 (yO++[(⟨w64 (yN * k.lo),w64 (yN * k.hi)⟩:Sn)])) (lp_ranges_Times_1_3 (yO++[(⟨w64 (yN * k.lo),w64 (yN * k.hi)⟩:Sn)]) (yO++[(⟨w64 (yN * k.lo),w64 (yN * k.hi)⟩:Sn)]) 0 (yP++[(⟨w64 (yS * k.lo),w64 (x.hi * k.hi)⟩:Sn)]) (List.drop_zero) (Nat.zero_le _) (by simp only [List.length_append,List.length_cons,List.length_nil] at * <;> omega) (by simp only [List.length_append,List.length_cons,List.length_nil] at * <;> omega) (by simp only [List.length_append,List.length_cons,List.length_nil] at * <;> omega)) h28) (Ai p5 (Ai p4 (Ai p1 trivial))))) (by kernel_rfl)
  | x2 yO yN =>
   try dsimp only
   have hv_h26:=ivt_ranges_products_3p1 k (w64 (0 - x.lo)) (zl (w64 (0 - x.hi)) 0) 2051 (zC _ _ _)
   rw [h26] at hv_h26
   have hv_h26_0:=hv_h26
   try dsimp only [iv_ranges_products_3p1] at hv_h26_0
   have p6:=(show (lim cfg).inl 72 [I (zl (w64 (0 - x.hi)) 0),I (w64 (0 - x.lo)),.agg [I k.lo,I k.hi]] [] 5=some (.lsl 6 0 yO.length 2 none,[(5,⟨[.agg [I k.lo,I k.hi]],2,false⟩),(6,⟨yO.map Sn.D,2,false⟩)],7) from zH [.loop (.exit 0) (sd40022 5 6 7 x yN yO k)] (Ai (zF (q:=y7 k (w64 (0 - x.lo)) (zl (w64 (0 - x.hi)) 0)) (lp_ranges_products_3p1 k (w64 (0 - x.lo)) (zl (w64 (0 - x.hi)) 0) 2051 (zC _ _ _)) h26) trivial) (by kernel_rfl))
   have p7:=(gc_of (C:=cfg) (f:=71) (a:=lp71_3) (ks:=[4,22,23,24]) (st:=(sd40023 6 0 4 1 3 5 7 yO k x yP yS)) (st1:=(sd40024 0 1 2 yP yS k x yO)) (by kernel_rfl) (by (simp only [sd40023,sd40024,go_sem,List.length_set,Nat.reduceAdd,Nat.reduceEqDiff,Nat.reduceLT,Nat.reduceLeDiff,bI2,zc.idsL,zc.renL,zc.snapAll,z7.idsL,z7.renL,z7.snapAll]) <;> rfl))
   cases h29:zD yO (yP++[(⟨w64 (yS * k.lo),w64 (x.hi * k.hi)⟩:Sn)]) with
   | x0 xp =>
    try dsimp only
    have hv_h29:=ivt_ranges_Times_1_3 yO yO 0 (yP++[(⟨w64 (yS * k.lo),w64 (x.hi * k.hi)⟩:Sn)]) (List.drop_zero) (Nat.zero_le _) (by omega) (by simp only [List.length_append,List.length_cons,List.length_nil] at * <;> omega) (by omega)
    rw [h29] at hv_h29
    have w9:=hv_h29
    try dsimp only [iv_ranges_Times_1_3] at w9
    exact po_pureS ((ranges_Times_1_o1 x k yP yS)++((ranges_Times_1_o4 x k yP yS yO xp)++[])) [(0,.sl false (xp.map Sn.D) 2 none,[0])] (Ai (snap_row (gO:=zt [(0,⟨xp.map Sn.D,2,false⟩),(1,⟨yO.map Sn.D,2,false⟩)]) (o:=0) (len:=xp.length) (cap:=none) (fz:=false) z7 xp (by kernel_rfl) (by omega)) (Ai (zF (q:=lr_ranges_Times_1_3 yO) (lp_ranges_Times_1_3 yO yO 0 (yP++[(⟨w64 (yS * k.lo),w64 (x.hi * k.hi)⟩:Sn)]) (List.drop_zero) (Nat.zero_le _) (by omega) (by simp only [List.length_append,List.length_cons,List.length_nil] at * <;> omega) (by omega)) h29) (Ai p7 (Ai p6 (Ai p1 trivial))))) (by kernel_rfl)
  | x3 =>
   try dsimp only
   have l1:=(app_row (f:=Sn.D) (te:=zS) (gO:=zt [(0,⟨(yP++[(⟨w64 (yS * k.lo),w64 (x.hi * k.hi)⟩:Sn)]).map Sn.D,2,false⟩),(1,⟨[.agg [I (w64 ((zl (w64 (0 - x.hi)) 0) * k.lo)),I (w64 ((w64 (0 - x.lo)) * k.hi))]],2,false⟩),(2,⟨[.agg [I (w64 ((zl (w64 (0 - x.hi)) 0) * k.lo)),I (w64 ((w64 (0 - x.lo)) * k.hi))]],2,false⟩),(3,⟨[.agg [I (w64 (0 - (w64 ((w64 (0 - x.lo)) * k.hi)))),I (w64 (0 - (w64 ((zl (w64 (0 - x.hi)) 0) * k.lo))))]],2,false⟩)]) (nxt:=4) (o:=0) (o2:=3) (fz:=false) z7 (yP++[(⟨w64 (yS * k.lo),w64 (x.hi * k.hi)⟩:Sn)]) (⟨w64 (0 - (w64 ((w64 (0 - x.lo)) * k.hi))),w64 (0 - (w64 ((zl (w64 (0 - x.hi)) 0) * k.lo)))⟩:Sn) (by kernel_rfl) (by kernel_rfl) rfl (by kernel_rfl) (by decide) ⟨by simp only [zS,big] <;> (simp only [List.length_append,List.length_cons,List.length_nil] at * <;> omega),by simp only [big] <;> (simp only [List.length_append,List.length_cons,List.length_nil] at * <;> omega)⟩)
   have l2:=(show ∀ q,(lim cfg).loop 71 lp71_3 (sd40027 0 1 2 yP yS k x)=some q→(lim cfg).loop 71 lp71_3 (sd40026 0 1 2 yP yS k x)=some q from fun q hq=>zN (ks:=[4,22,23,24]) (st':=(sd40028 4 3 2 0 1 5 yP yS k x)) (st1:=(sd40027 0 1 2 yP yS k x)) [.dec true,.op (some 37) ⟨.lsl 4 0 (((yP++[(⟨w64 (yS * k.lo),w64 (x.hi * k.hi)⟩:Sn)])++[(⟨w64 (0 - (w64 ((w64 (0 - x.lo)) * k.hi))),w64 (0 - (w64 ((zl (w64 (0 - x.hi)) 0) * k.lo)))⟩:Sn)]).length) 2 none,[(0,none),(4,some ⟨((yP++[(⟨w64 (yS * k.lo),w64 (x.hi * k.hi)⟩:Sn)])++[(⟨w64 (0 - (w64 ((w64 (0 - x.lo)) * k.hi))),w64 (0 - (w64 ((zl (w64 (0 - x.hi)) 0) * k.lo)))⟩:Sn)]).map Sn.D,2,false⟩)],[0,3],5⟩,.rw 38 (I 1)] (Ai (zadd_rw (x:=1) (by omega)) (Ai (l1) (Ai (Eq.refl true) trivial))) (by kernel_rfl) (by (simp only [sd40027,sd40028,go_sem,List.length_set,Nat.reduceAdd,Nat.reduceEqDiff,Nat.reduceLT,Nat.reduceLeDiff,bI2,zc.idsL,zc.renL,zc.snapAll,z7.idsL,z7.renL,z7.snapAll]) <;> rfl) hq (by kernel_rfl))
   exact po_pureS ((ranges_Times_1_o1 x k yP yS)++[.inl (.lsl 7 0 1 2 none) [(5,⟨[.agg [I k.lo,I k.hi]],2,false⟩),(6,⟨[.agg [I (w64 ((zl (w64 (0 - x.hi)) 0) * k.lo)),I (w64 ((w64 (0 - x.lo)) * k.hi))]],2,false⟩),(7,⟨[.agg [I (w64 ((zl (w64 (0 - x.hi)) 0) * k.lo)),I (w64 ((w64 (0 - x.lo)) * k.hi))]],2,false⟩)] 8,.gloop (sd40026 0 1 2 yP yS k x) (.exit 0) (sd40029 0 1 2 yP yS k x)]) [(0,.sl false (((yP++[(⟨w64 (yS * k.lo),w64 (x.hi * k.hi)⟩:Sn)])++[(⟨w64 (0 - (w64 ((w64 (0 - x.lo)) * k.hi))),w64 (0 - (w64 ((zl (w64 (0 - x.hi)) 0) * k.lo)))⟩:Sn)]).map Sn.D) 2 none,[0])] (Ai (snap_row (gO:=zt [(0,⟨((yP++[(⟨w64 (yS * k.lo),w64 (x.hi * k.hi)⟩:Sn)])++[(⟨w64 (0 - (w64 ((w64 (0 - x.lo)) * k.hi))),w64 (0 - (w64 ((zl (w64 (0 - x.hi)) 0) * k.lo)))⟩:Sn)]).map Sn.D,2,false⟩),(1,⟨[.agg [I (w64 ((zl (w64 (0 - x.hi)) 0) * k.lo)),I (w64 ((w64 (0 - x.lo)) * k.hi))]],2,false⟩)]) (o:=0) (len:=((yP++[(⟨w64 (yS * k.lo),w64 (x.hi * k.hi)⟩:Sn)])++[(⟨w64 (0 - (w64 ((w64 (0 - x.lo)) * k.hi))),w64 (0 - (w64 ((zl (w64 (0 - x.hi)) 0) * k.lo)))⟩:Sn)]).length) (cap:=none) (fz:=false) z7 ((yP++[(⟨w64 (yS * k.lo),w64 (x.hi * k.hi)⟩:Sn)])++[(⟨w64 (0 - (w64 ((w64 (0 - x.lo)) * k.hi))),w64 (0 - (w64 ((zl (w64 (0 - x.hi)) 0) * k.lo)))⟩:Sn)]) (by kernel_rfl) (by omega)) (Ai (show (lim cfg).loop 71 lp71_3 (sd40026 0 1 2 yP yS k x)=some ((.exit 0),(sd40029 0 1 2 yP yS k x)) from (l2 _ (zy [.dec false] (Ai (Eq.refl false) trivial) (by kernel_rfl)))) (Ai (gc_of (C:=cfg) (f:=71) (a:=lp71_3) (ks:=[4,22,23,24]) (st:=(sd40030 7 0 4 1 3 5 6 8 k x yP yS)) (st1:=(sd40026 0 1 2 yP yS k x)) (by kernel_rfl) (by (simp only [sd40026,sd40030,go_sem,List.length_set,Nat.reduceAdd,Nat.reduceEqDiff,Nat.reduceLT,Nat.reduceLeDiff,bI2,zc.idsL,zc.renL,zc.snapAll,z7.idsL,z7.renL,z7.snapAll]) <;> rfl)) (Ai (show (lim cfg).inl 72 [I (zl (w64 (0 - x.hi)) 0),I (w64 (0 - x.lo)),.agg [I k.lo,I k.hi]] [] 5=some (.lsl 7 0 1 2 none,[(5,⟨[.agg [I k.lo,I k.hi]],2,false⟩),(6,⟨[.agg [I (w64 ((zl (w64 (0 - x.hi)) 0) * k.lo)),I (w64 ((w64 (0 - x.lo)) * k.hi))]],2,false⟩),(7,⟨[.agg [I (w64 ((zl (w64 (0 - x.hi)) 0) * k.lo)),I (w64 ((w64 (0 - x.lo)) * k.hi))]],2,false⟩)],8) from zH [.loop .ret (sd40025 7 6 5 8 x k)] (Ai (zF (q:=y7 k (w64 (0 - x.lo)) (zl (w64 (0 - x.hi)) 0)) (lp_ranges_products_3p1 k (w64 (0 - x.lo)) (zl (w64 (0 - x.hi)) 0) 2051 (zC _ _ _)) h26) trivial) (by kernel_rfl)) (Ai p1 trivial))))) (by kernel_rfl)
  | x4 =>
   try dsimp only
   exact po_pureS ((ranges_Times_1_o1 x k yP yS)++[.inl (.sl true [] 0 none) [(5,⟨[.agg [I k.lo,I k.hi]],2,false⟩)] 6,.gloop (sd40032 0 1 yP yS k x) (.exit 0) (sd40033 0 1 yP yS k x)]) [(0,.sl false ((yP++[(⟨w64 (yS * k.lo),w64 (x.hi * k.hi)⟩:Sn)]).map Sn.D) 2 none,[0])] (Ai (snap_row (gO:=zt [(0,⟨(yP++[(⟨w64 (yS * k.lo),w64 (x.hi * k.hi)⟩:Sn)]).map Sn.D,2,false⟩)]) (o:=0) (len:=(yP++[(⟨w64 (yS * k.lo),w64 (x.hi * k.hi)⟩:Sn)]).length) (cap:=none) (fz:=false) z7 (yP++[(⟨w64 (yS * k.lo),w64 (x.hi * k.hi)⟩:Sn)]) (by kernel_rfl) (by omega)) (Ai (show (lim cfg).loop 71 lp71_3 (sd40032 0 1 yP yS k x)=some ((.exit 0),(sd40033 0 1 yP yS k x)) from (zy [.dec false] (Ai (Eq.refl false) trivial) (by kernel_rfl))) (Ai (gc_of (C:=cfg) (f:=71) (a:=lp71_3) (ks:=[4,22,23,24]) (st:=(sd40034 0 4 1 3 5 6 k x yP yS)) (st1:=(sd40032 0 1 yP yS k x)) (by kernel_rfl) (by (simp only [sd40032,sd40034,go_sem,List.length_set,Nat.reduceAdd,Nat.reduceEqDiff,Nat.reduceLT,Nat.reduceLeDiff,bI2,zc.idsL,zc.renL,zc.snapAll,z7.idsL,z7.renL,z7.snapAll]) <;> rfl)) (Ai (show (lim cfg).inl 72 [I (zl (w64 (0 - x.hi)) 0),I (w64 (0 - x.lo)),.agg [I k.lo,I k.hi]] [] 5=some (.sl true [] 0 none,[(5,⟨[.agg [I k.lo,I k.hi]],2,false⟩)],6) from zH [.loop (.exit 0) (sd40031 5 6 x k)] (Ai (zF (q:=y7 k (w64 (0 - x.lo)) (zl (w64 (0 - x.hi)) 0)) (lp_ranges_products_3p1 k (w64 (0 - x.lo)) (zl (w64 (0 - x.hi)) 0) 2051 (zC _ _ _)) h26) trivial) (by kernel_rfl)) (Ai p1 trivial))))) (by kernel_rfl)
  | out =>
   exact absurd h26 ((zC _ _ _))
 | x1 yP yS =>
  try dsimp only
  have hv_h13:=ivt_ranges_products_3 x k (zl x.lo 0) 2051 (ranges_products_3_ne _ _ _)
  rw [h13] at hv_h13
  have hv_h13_0:=hv_h13
  try dsimp only [iv_ranges_products_3] at hv_h13_0
  have p8:=(show (lim cfg).inl 72 [I (zl x.lo 0),I x.hi,.agg [I k.lo,I k.hi]] [] 1=some (.lsl 4 0 ((yP++[(⟨w64 (yS * k.lo),w64 (yS * k.hi)⟩:Sn)]).length) 2 none,[(1,⟨[.agg [I k.lo,I k.hi]],2,false⟩),(3,⟨[.agg [I (w64 (yS * k.lo)),I (w64 (yS * k.hi))]],2,false⟩),(4,⟨(yP++[(⟨w64 (yS * k.lo),w64 (yS * k.hi)⟩:Sn)]).map Sn.D,2,false⟩)],5) from zH [.loop (.exit 0) (sd40001 4 3 1 2 5 yP yS k x)] (Ai (zF (q:=lr_ranges_products_3 x k (zl x.lo 0)) (lp_ranges_products_3 x k (zl x.lo 0) 2051 (ranges_products_3_ne _ _ _)) h13) trivial) (by kernel_rfl))
  cases h30:zR k (w64 (0 - x.lo)) (zl (w64 (0 - x.hi)) 0) 2051 with
  | x0 yO yN =>
   try dsimp only
   have xZ:=ivt_ranges_products_3p1 k (w64 (0 - x.lo)) (zl (w64 (0 - x.hi)) 0) 2051 (zC _ _ _)
   rw [h30] at xZ
   have xX:=xZ
   try dsimp only [iv_ranges_products_3p1] at xX
   have p9:=(show (lim cfg).inl 72 [I (zl (w64 (0 - x.hi)) 0),I (w64 (0 - x.lo)),.agg [I k.lo,I k.hi]] [] 5=some (.lsl 8 0 ((yO++[(⟨w64 (yN * k.lo),w64 ((w64 (0 - x.lo)) * k.hi)⟩:Sn)]).length) 2 none,[(5,⟨[.agg [I k.lo,I k.hi]],2,false⟩),(7,⟨[.agg [I (w64 (yN * k.lo)),I (w64 ((w64 (0 - x.lo)) * k.hi))]],2,false⟩),(8,⟨(yO++[(⟨w64 (yN * k.lo),w64 ((w64 (0 - x.lo)) * k.hi)⟩:Sn)]).map Sn.D,2,false⟩)],9) from zH [.loop .ret (sd40012 8 7 5 6 9 yO yN k x)] (Ai (zF (q:=y7 k (w64 (0 - x.lo)) (zl (w64 (0 - x.hi)) 0)) (lp_ranges_products_3p1 k (w64 (0 - x.lo)) (zl (w64 (0 - x.hi)) 0) 2051 (zC _ _ _)) h30) trivial) (by kernel_rfl))
   have p10:=(gc_of (C:=cfg) (f:=71) (a:=lp71_3) (ks:=[4,22,23,24]) (st:=(sd40035 8 0 4 1 3 5 7 9 yO yN k x yP yS)) (st1:=(sd40036 0 1 2 yP yS k yO yN x)) (by kernel_rfl) (by (simp only [sd40035,sd40036,go_sem,List.length_set,Nat.reduceAdd,Nat.reduceEqDiff,Nat.reduceLT,Nat.reduceLeDiff,bI2,zc.idsL,zc.renL,zc.snapAll,z7.idsL,z7.renL,z7.snapAll]) <;> rfl))
   cases h31:zD (yO++[(⟨w64 (yN * k.lo),w64 ((w64 (0 - x.lo)) * k.hi)⟩:Sn)]) (yP++[(⟨w64 (yS * k.lo),w64 (yS * k.hi)⟩:Sn)]) with
   | x0 xp =>
    try dsimp only
    have hv_h31:=ivt_ranges_Times_1_3 (yO++[(⟨w64 (yN * k.lo),w64 ((w64 (0 - x.lo)) * k.hi)⟩:Sn)]) (yO++[(⟨w64 (yN * k.lo),w64 ((w64 (0 - x.lo)) * k.hi)⟩:Sn)]) 0 (yP++[(⟨w64 (yS * k.lo),w64 (yS * k.hi)⟩:Sn)]) (List.drop_zero) (Nat.zero_le _) (by simp only [List.length_append,List.length_cons,List.length_nil] at * <;> omega) (by simp only [List.length_append,List.length_cons,List.length_nil] at * <;> omega) (by simp only [List.length_append,List.length_cons,List.length_nil] at * <;> omega)
    rw [h31] at hv_h31
    have wa:=hv_h31
    try dsimp only [iv_ranges_Times_1_3] at wa
    exact po_pureS ((ranges_Times_1_o5 k yP yS)++((ranges_Times_1_o6 x k yP yS yO yN xp)++[])) [(0,.sl false (xp.map Sn.D) 2 none,[0])] (Ai (snap_row (gO:=zt [(0,⟨xp.map Sn.D,2,false⟩),(1,⟨(yO++[(⟨w64 (yN * k.lo),w64 ((w64 (0 - x.lo)) * k.hi)⟩:Sn)]).map Sn.D,2,false⟩)]) (o:=0) (len:=xp.length) (cap:=none) (fz:=false) z7 xp (by kernel_rfl) (by omega)) (Ai (zF (q:=lr_ranges_Times_1_3 (yO++[(⟨w64 (yN * k.lo),w64 ((w64 (0 - x.lo)) * k.hi)⟩:Sn)])) (lp_ranges_Times_1_3 (yO++[(⟨w64 (yN * k.lo),w64 ((w64 (0 - x.lo)) * k.hi)⟩:Sn)]) (yO++[(⟨w64 (yN * k.lo),w64 ((w64 (0 - x.lo)) * k.hi)⟩:Sn)]) 0 (yP++[(⟨w64 (yS * k.lo),w64 (yS * k.hi)⟩:Sn)]) (List.drop_zero) (Nat.zero_le _) (by simp only [List.length_append,List.length_cons,List.length_nil] at * <;> omega) (by simp only [List.length_append,List.length_cons,List.length_nil] at * <;> omega) (by simp only [List.length_append,List.length_cons,List.length_nil] at * <;> omega)) h31) (Ai p10 (Ai p9 (Ai p8 trivial))))) (by kernel_rfl)
  | x1 yO yN =>
   try dsimp only
   have xZ:=ivt_ranges_products_3p1 k (w64 (0 - x.lo)) (zl (w64 (0 - x.hi)) 0) 2051 (zC _ _ _)
   rw [h30] at xZ
   have xX:=xZ
   try dsimp only [iv_ranges_products_3p1] at xX
   have p11:=(show (lim cfg).inl 72 [I (zl (w64 (0 - x.hi)) 0),I (w64 (0 - x.lo)),.agg [I k.lo,I k.hi]] [] 5=some (.lsl 8 0 ((yO++[(⟨w64 (yN * k.lo),w64 (yN * k.hi)⟩:Sn)]).length) 2 none,[(5,⟨[.agg [I k.lo,I k.hi]],2,false⟩),(7,⟨[.agg [I (w64 (yN * k.lo)),I (w64 (yN * k.hi))]],2,false⟩),(8,⟨(yO++[(⟨w64 (yN * k.lo),w64 (yN * k.hi)⟩:Sn)]).map Sn.D,2,false⟩)],9) from zH [.loop (.exit 0) (sd40018 8 7 5 6 9 yO yN k x)] (Ai (zF (q:=y7 k (w64 (0 - x.lo)) (zl (w64 (0 - x.hi)) 0)) (lp_ranges_products_3p1 k (w64 (0 - x.lo)) (zl (w64 (0 - x.hi)) 0) 2051 (zC _ _ _)) h30) trivial) (by kernel_rfl))
   have p12:=(gc_of (C:=cfg) (f:=71) (a:=lp71_3) (ks:=[4,22,23,24]) (st:=(sd40037 8 0 4 1 3 5 7 9 yO yN k x yP yS)) (st1:=(sd40038 0 1 2 yP yS k yO yN)) (by kernel_rfl) (by (simp only [sd40037,sd40038,go_sem,List.length_set,Nat.reduceAdd,Nat.reduceEqDiff,Nat.reduceLT,Nat.reduceLeDiff,bI2,zc.idsL,zc.renL,zc.snapAll,z7.idsL,z7.renL,z7.snapAll]) <;> rfl))
   cases h32:zD (yO++[(⟨w64 (yN * k.lo),w64 (yN * k.hi)⟩:Sn)]) (yP++[(⟨w64 (yS * k.lo),w64 (yS * k.hi)⟩:Sn)]) with
   | x0 xp =>
    try dsimp only
    have hv_h32:=ivt_ranges_Times_1_3 (yO++[(⟨w64 (yN * k.lo),w64 (yN * k.hi)⟩:Sn)]) (yO++[(⟨w64 (yN * k.lo),w64 (yN * k.hi)⟩:Sn)]) 0 (yP++[(⟨w64 (yS * k.lo),w64 (yS * k.hi)⟩:Sn)]) (List.drop_zero) (Nat.zero_le _) (by simp only [List.length_append,List.length_cons,List.length_nil] at * <;> omega) (by simp only [List.length_append,List.length_cons,List.length_nil] at * <;> omega) (by simp only [List.length_append,List.length_cons,List.length_nil] at * <;> omega)
    rw [h32] at hv_h32
    have hv_h32_0:=hv_h32
    try dsimp only [iv_ranges_Times_1_3] at hv_h32_0
    exact po_pureS ((ranges_Times_1_o5 k yP yS)++((ranges_Times_1_o7 k yP yS yO yN xp)++[])) [(0,.sl false (xp.map Sn.D) 2 none,[0])] (Ai (snap_row (gO:=zt [(0,⟨xp.map Sn.D,2,false⟩),(1,⟨(yO++[(⟨w64 (yN * k.lo),w64 (yN * k.hi)⟩:Sn)]).map Sn.D,2,false⟩)]) (o:=0) (len:=xp.length) (cap:=none) (fz:=false) z7 xp (by kernel_rfl) (by omega)) (Ai (zF (q:=lr_ranges_Times_1_3 (yO++[(⟨w64 (yN * k.lo),w64 (yN * k.hi)⟩:Sn)])) (lp_ranges_Times_1_3 (yO++[(⟨w64 (yN * k.lo),w64 (yN * k.hi)⟩:Sn)]) (yO++[(⟨w64 (yN * k.lo),w64 (yN * k.hi)⟩:Sn)]) 0 (yP++[(⟨w64 (yS * k.lo),w64 (yS * k.hi)⟩:Sn)]) (List.drop_zero) (Nat.zero_le _) (by simp only [List.length_append,List.length_cons,List.length_nil] at * <;> omega) (by simp only [List.length_append,List.length_cons,List.length_nil] at * <;> omega) (by simp only [List.length_append,List.length_cons,List.length_nil] at * <;> omega)) h32) (Ai p12 (Ai p11 (Ai p8 trivial))))) (by kernel_rfl)
  | x2 yO yN =>
   try dsimp only
   have xZ:=ivt_ranges_products_3p1 k (w64 (0 - x.lo)) (zl (w64 (0 - x.hi)) 0) 2051 (zC _ _ _)
   rw [h30] at xZ
   have xX:=xZ
   try dsimp only [iv_ranges_products_3p1] at xX
   have p13:=(show (lim cfg).inl 72 [I (zl (w64 (0 - x.hi)) 0),I (w64 (0 - x.lo)),.agg [I k.lo,I k.hi]] [] 5=some (.lsl 6 0 yO.length 2 none,[(5,⟨[.agg [I k.lo,I k.hi]],2,false⟩),(6,⟨yO.map Sn.D,2,false⟩)],7) from zH [.loop (.exit 0) (sd40022 5 6 7 x yN yO k)] (Ai (zF (q:=y7 k (w64 (0 - x.lo)) (zl (w64 (0 - x.hi)) 0)) (lp_ranges_products_3p1 k (w64 (0 - x.lo)) (zl (w64 (0 - x.hi)) 0) 2051 (zC _ _ _)) h30) trivial) (by kernel_rfl))
   have p14:=(gc_of (C:=cfg) (f:=71) (a:=lp71_3) (ks:=[4,22,23,24]) (st:=(sd40039 6 0 4 1 3 5 7 yO k x yP yS)) (st1:=(sd40040 0 1 2 yP yS k yO)) (by kernel_rfl) (by (simp only [sd40039,sd40040,go_sem,List.length_set,Nat.reduceAdd,Nat.reduceEqDiff,Nat.reduceLT,Nat.reduceLeDiff,bI2,zc.idsL,zc.renL,zc.snapAll,z7.idsL,z7.renL,z7.snapAll]) <;> rfl))
   cases h33:zD yO (yP++[(⟨w64 (yS * k.lo),w64 (yS * k.hi)⟩:Sn)]) with
   | x0 xp =>
    try dsimp only
    have hv_h33:=ivt_ranges_Times_1_3 yO yO 0 (yP++[(⟨w64 (yS * k.lo),w64 (yS * k.hi)⟩:Sn)]) (List.drop_zero) (Nat.zero_le _) (by omega) (by simp only [List.length_append,List.length_cons,List.length_nil] at * <;> omega) (by omega)
    rw [h33] at hv_h33
    have hv_h33_0:=hv_h33
    try dsimp only [iv_ranges_Times_1_3] at hv_h33_0
    exact po_pureS ((ranges_Times_1_o5 k yP yS)++((ranges_Times_1_o8 k yP yS yO xp)++[])) [(0,.sl false (xp.map Sn.D) 2 none,[0])] (Ai (snap_row (gO:=zt [(0,⟨xp.map Sn.D,2,false⟩),(1,⟨yO.map Sn.D,2,false⟩)]) (o:=0) (len:=xp.length) (cap:=none) (fz:=false) z7 xp (by kernel_rfl) (by omega)) (Ai (zF (q:=lr_ranges_Times_1_3 yO) (lp_ranges_Times_1_3 yO yO 0 (yP++[(⟨w64 (yS * k.lo),w64 (yS * k.hi)⟩:Sn)]) (List.drop_zero) (Nat.zero_le _) (by omega) (by simp only [List.length_append,List.length_cons,List.length_nil] at * <;> omega) (by omega)) h33) (Ai p14 (Ai p13 (Ai p8 trivial))))) (by kernel_rfl)
  | x3 =>
   try dsimp only
   have l3:=(app_row (f:=Sn.D) (te:=zS) (gO:=zt [(0,⟨(yP++[(⟨w64 (yS * k.lo),w64 (yS * k.hi)⟩:Sn)]).map Sn.D,2,false⟩),(1,⟨[.agg [I (w64 ((zl (w64 (0 - x.hi)) 0) * k.lo)),I (w64 ((w64 (0 - x.lo)) * k.hi))]],2,false⟩),(2,⟨[.agg [I (w64 ((zl (w64 (0 - x.hi)) 0) * k.lo)),I (w64 ((w64 (0 - x.lo)) * k.hi))]],2,false⟩),(3,⟨[.agg [I (w64 (0 - (w64 ((w64 (0 - x.lo)) * k.hi)))),I (w64 (0 - (w64 ((zl (w64 (0 - x.hi)) 0) * k.lo))))]],2,false⟩)]) (nxt:=4) (o:=0) (o2:=3) (fz:=false) z7 (yP++[(⟨w64 (yS * k.lo),w64 (yS * k.hi)⟩:Sn)]) (⟨w64 (0 - (w64 ((w64 (0 - x.lo)) * k.hi))),w64 (0 - (w64 ((zl (w64 (0 - x.hi)) 0) * k.lo)))⟩:Sn) (by kernel_rfl) (by kernel_rfl) rfl (by kernel_rfl) (by decide) ⟨by simp only [zS,big] <;> (simp only [List.length_append,List.length_cons,List.length_nil] at * <;> omega),by simp only [big] <;> (simp only [List.length_append,List.length_cons,List.length_nil] at * <;> omega)⟩)
   have l4:=(show ∀ q,(lim cfg).loop 71 lp71_3 (sd40042 0 1 2 yP yS k x)=some q→(lim cfg).loop 71 lp71_3 (sd40041 0 1 2 yP yS k x)=some q from fun q hq=>zN (ks:=[4,22,23,24]) (st':=(sd40043 4 3 2 0 1 5 yP yS k x)) (st1:=(sd40042 0 1 2 yP yS k x)) [.dec true,.op (some 37) ⟨.lsl 4 0 (((yP++[(⟨w64 (yS * k.lo),w64 (yS * k.hi)⟩:Sn)])++[(⟨w64 (0 - (w64 ((w64 (0 - x.lo)) * k.hi))),w64 (0 - (w64 ((zl (w64 (0 - x.hi)) 0) * k.lo)))⟩:Sn)]).length) 2 none,[(0,none),(4,some ⟨((yP++[(⟨w64 (yS * k.lo),w64 (yS * k.hi)⟩:Sn)])++[(⟨w64 (0 - (w64 ((w64 (0 - x.lo)) * k.hi))),w64 (0 - (w64 ((zl (w64 (0 - x.hi)) 0) * k.lo)))⟩:Sn)]).map Sn.D,2,false⟩)],[0,3],5⟩,.rw 38 (I 1)] (Ai (zadd_rw (x:=1) (by omega)) (Ai (l3) (Ai (Eq.refl true) trivial))) (by kernel_rfl) (by (simp only [sd40042,sd40043,go_sem,List.length_set,Nat.reduceAdd,Nat.reduceEqDiff,Nat.reduceLT,Nat.reduceLeDiff,bI2,zc.idsL,zc.renL,zc.snapAll,z7.idsL,z7.renL,z7.snapAll]) <;> rfl) hq (by kernel_rfl))
   exact po_pureS ((ranges_Times_1_o5 k yP yS)++[.inl (.lsl 7 0 1 2 none) [(5,⟨[.agg [I k.lo,I k.hi]],2,false⟩),(6,⟨[.agg [I (w64 ((zl (w64 (0 - x.hi)) 0) * k.lo)),I (w64 ((w64 (0 - x.lo)) * k.hi))]],2,false⟩),(7,⟨[.agg [I (w64 ((zl (w64 (0 - x.hi)) 0) * k.lo)),I (w64 ((w64 (0 - x.lo)) * k.hi))]],2,false⟩)] 8,.gloop (sd40041 0 1 2 yP yS k x) (.exit 0) (sd40044 0 1 2 yP yS k x)]) [(0,.sl false (((yP++[(⟨w64 (yS * k.lo),w64 (yS * k.hi)⟩:Sn)])++[(⟨w64 (0 - (w64 ((w64 (0 - x.lo)) * k.hi))),w64 (0 - (w64 ((zl (w64 (0 - x.hi)) 0) * k.lo)))⟩:Sn)]).map Sn.D) 2 none,[0])] (Ai (snap_row (gO:=zt [(0,⟨((yP++[(⟨w64 (yS * k.lo),w64 (yS * k.hi)⟩:Sn)])++[(⟨w64 (0 - (w64 ((w64 (0 - x.lo)) * k.hi))),w64 (0 - (w64 ((zl (w64 (0 - x.hi)) 0) * k.lo)))⟩:Sn)]).map Sn.D,2,false⟩),(1,⟨[.agg [I (w64 ((zl (w64 (0 - x.hi)) 0) * k.lo)),I (w64 ((w64 (0 - x.lo)) * k.hi))]],2,false⟩)]) (o:=0) (len:=((yP++[(⟨w64 (yS * k.lo),w64 (yS * k.hi)⟩:Sn)])++[(⟨w64 (0 - (w64 ((w64 (0 - x.lo)) * k.hi))),w64 (0 - (w64 ((zl (w64 (0 - x.hi)) 0) * k.lo)))⟩:Sn)]).length) (cap:=none) (fz:=false) z7 ((yP++[(⟨w64 (yS * k.lo),w64 (yS * k.hi)⟩:Sn)])++[(⟨w64 (0 - (w64 ((w64 (0 - x.lo)) * k.hi))),w64 (0 - (w64 ((zl (w64 (0 - x.hi)) 0) * k.lo)))⟩:Sn)]) (by kernel_rfl) (by omega)) (Ai (show (lim cfg).loop 71 lp71_3 (sd40041 0 1 2 yP yS k x)=some ((.exit 0),(sd40044 0 1 2 yP yS k x)) from (l4 _ (zy [.dec false] (Ai (Eq.refl false) trivial) (by kernel_rfl)))) (Ai (gc_of (C:=cfg) (f:=71) (a:=lp71_3) (ks:=[4,22,23,24]) (st:=(sd40045 7 0 4 1 3 5 6 8 k x yP yS)) (st1:=(sd40041 0 1 2 yP yS k x)) (by kernel_rfl) (by (simp only [sd40041,sd40045,go_sem,List.length_set,Nat.reduceAdd,Nat.reduceEqDiff,Nat.reduceLT,Nat.reduceLeDiff,bI2,zc.idsL,zc.renL,zc.snapAll,z7.idsL,z7.renL,z7.snapAll]) <;> rfl)) (Ai (show (lim cfg).inl 72 [I (zl (w64 (0 - x.hi)) 0),I (w64 (0 - x.lo)),.agg [I k.lo,I k.hi]] [] 5=some (.lsl 7 0 1 2 none,[(5,⟨[.agg [I k.lo,I k.hi]],2,false⟩),(6,⟨[.agg [I (w64 ((zl (w64 (0 - x.hi)) 0) * k.lo)),I (w64 ((w64 (0 - x.lo)) * k.hi))]],2,false⟩),(7,⟨[.agg [I (w64 ((zl (w64 (0 - x.hi)) 0) * k.lo)),I (w64 ((w64 (0 - x.lo)) * k.hi))]],2,false⟩)],8) from zH [.loop .ret (sd40025 7 6 5 8 x k)] (Ai (zF (q:=y7 k (w64 (0 - x.lo)) (zl (w64 (0 - x.hi)) 0)) (lp_ranges_products_3p1 k (w64 (0 - x.lo)) (zl (w64 (0 - x.hi)) 0) 2051 (zC _ _ _)) h30) trivial) (by kernel_rfl)) (Ai p8 trivial))))) (by kernel_rfl)
  | x4 =>
   try dsimp only
   exact po_pureS ((ranges_Times_1_o5 k yP yS)++[.inl (.sl true [] 0 none) [(5,⟨[.agg [I k.lo,I k.hi]],2,false⟩)] 6,.gloop (sd40046 0 1 yP yS k) (.exit 0) (sd40047 0 1 yP yS k)]) [(0,.sl false ((yP++[(⟨w64 (yS * k.lo),w64 (yS * k.hi)⟩:Sn)]).map Sn.D) 2 none,[0])] (Ai (snap_row (gO:=zt [(0,⟨(yP++[(⟨w64 (yS * k.lo),w64 (yS * k.hi)⟩:Sn)]).map Sn.D,2,false⟩)]) (o:=0) (len:=(yP++[(⟨w64 (yS * k.lo),w64 (yS * k.hi)⟩:Sn)]).length) (cap:=none) (fz:=false) z7 (yP++[(⟨w64 (yS * k.lo),w64 (yS * k.hi)⟩:Sn)]) (by kernel_rfl) (by omega)) (Ai (show (lim cfg).loop 71 lp71_3 (sd40046 0 1 yP yS k)=some ((.exit 0),(sd40047 0 1 yP yS k)) from (zy [.dec false] (Ai (Eq.refl false) trivial) (by kernel_rfl))) (Ai (gc_of (C:=cfg) (f:=71) (a:=lp71_3) (ks:=[4,22,23,24]) (st:=(sd40048 0 4 1 3 5 6 k x yP yS)) (st1:=(sd40046 0 1 yP yS k)) (by kernel_rfl) (by (simp only [sd40046,sd40048,go_sem,List.length_set,Nat.reduceAdd,Nat.reduceEqDiff,Nat.reduceLT,Nat.reduceLeDiff,bI2,zc.idsL,zc.renL,zc.snapAll,z7.idsL,z7.renL,z7.snapAll]) <;> rfl)) (Ai (show (lim cfg).inl 72 [I (zl (w64 (0 - x.hi)) 0),I (w64 (0 - x.lo)),.agg [I k.lo,I k.hi]] [] 5=some (.sl true [] 0 none,[(5,⟨[.agg [I k.lo,I k.hi]],2,false⟩)],6) from zH [.loop (.exit 0) (sd40031 5 6 x k)] (Ai (zF (q:=y7 k (w64 (0 - x.lo)) (zl (w64 (0 - x.hi)) 0)) (lp_ranges_products_3p1 k (w64 (0 - x.lo)) (zl (w64 (0 - x.hi)) 0) 2051 (zC _ _ _)) h30) trivial) (by kernel_rfl)) (Ai p8 trivial))))) (by kernel_rfl)
  | out =>
   exact absurd h30 ((zC _ _ _))
 | x2 yP yS =>
  try dsimp only
  have hv_h13:=ivt_ranges_products_3 x k (zl x.lo 0) 2051 (ranges_products_3_ne _ _ _)
  rw [h13] at hv_h13
  have hv_h13_0:=hv_h13
  try dsimp only [iv_ranges_products_3] at hv_h13_0
  have p15:=(show (lim cfg).inl 72 [I (zl x.lo 0),I x.hi,.agg [I k.lo,I k.hi]] [] 1=some (.lsl 2 0 yP.length 2 none,[(1,⟨[.agg [I k.lo,I k.hi]],2,false⟩),(2,⟨yP.map Sn.D,2,false⟩)],3) from zH [.loop (.exit 0) (sd40002 1 2 3 x yS yP k)] (Ai (zF (q:=lr_ranges_products_3 x k (zl x.lo 0)) (lp_ranges_products_3 x k (zl x.lo 0) 2051 (ranges_products_3_ne _ _ _)) h13) trivial) (by kernel_rfl))
  cases h46:ye k (w64 (0 - x.lo)) (zl (w64 (0 - x.hi)) 0) 2051 with
  | x0 yG yU =>
   try dsimp only
   have hv_h46:=ivt_ranges_products_3p2 k (w64 (0 - x.lo)) (zl (w64 (0 - x.hi)) 0) 2051 (yq _ _ _)
   rw [h46] at hv_h46
   have hv_h46_0:=hv_h46
   try dsimp only [iv_ranges_products_3p2] at hv_h46_0
   have p16:=(show (lim cfg).inl 72 [I (zl (w64 (0 - x.hi)) 0),I (w64 (0 - x.lo)),.agg [I k.lo,I k.hi]] [] 3=some (.lsl 6 0 ((yG++[(⟨w64 (yU * k.lo),w64 ((w64 (0 - x.lo)) * k.hi)⟩:Sn)]).length) 2 none,[(3,⟨[.agg [I k.lo,I k.hi]],2,false⟩),(5,⟨[.agg [I (w64 (yU * k.lo)),I (w64 ((w64 (0 - x.lo)) * k.hi))]],2,false⟩),(6,⟨(yG++[(⟨w64 (yU * k.lo),w64 ((w64 (0 - x.lo)) * k.hi)⟩:Sn)]).map Sn.D,2,false⟩)],7) from zH [.loop .ret (sd40012 6 5 3 4 7 yG yU k x)] (Ai (zF (q:=lr_ranges_products_3p2 k (w64 (0 - x.lo)) (zl (w64 (0 - x.hi)) 0)) (lp_ranges_products_3p2 k (w64 (0 - x.lo)) (zl (w64 (0 - x.hi)) 0) 2051 (yq _ _ _)) h46) trivial) (by kernel_rfl))
   have p17:=(gc_of (C:=cfg) (f:=71) (a:=lp71_3) (ks:=[4,22,23,24]) (st:=(sd40049 6 0 2 1 3 5 7 yG yU k x yP)) (st1:=(sd40050 0 1 2 yP yG yU k x)) (by kernel_rfl) (by (simp only [sd40049,sd40050,go_sem,List.length_set,Nat.reduceAdd,Nat.reduceEqDiff,Nat.reduceLT,Nat.reduceLeDiff,bI2,zc.idsL,zc.renL,zc.snapAll,z7.idsL,z7.renL,z7.snapAll]) <;> rfl))
   cases h47:zD (yG++[(⟨w64 (yU * k.lo),w64 ((w64 (0 - x.lo)) * k.hi)⟩:Sn)]) yP with
   | x0 xp =>
    try dsimp only
    have hv_h47:=ivt_ranges_Times_1_3 (yG++[(⟨w64 (yU * k.lo),w64 ((w64 (0 - x.lo)) * k.hi)⟩:Sn)]) (yG++[(⟨w64 (yU * k.lo),w64 ((w64 (0 - x.lo)) * k.hi)⟩:Sn)]) 0 yP (List.drop_zero) (Nat.zero_le _) (by simp only [List.length_append,List.length_cons,List.length_nil] at * <;> omega) (by omega) (by simp only [List.length_append,List.length_cons,List.length_nil] at * <;> omega)
    rw [h47] at hv_h47
    have hv_h47_0:=hv_h47
    try dsimp only [iv_ranges_Times_1_3] at hv_h47_0
    exact po_pureS ((ranges_Times_1_o9 x k yP xp yG yU)++[]) [(0,.sl false (xp.map Sn.D) 2 none,[0])] (Ai (snap_row (gO:=zt [(0,⟨xp.map Sn.D,2,false⟩),(1,⟨(yG++[(⟨w64 (yU * k.lo),w64 ((w64 (0 - x.lo)) * k.hi)⟩:Sn)]).map Sn.D,2,false⟩)]) (o:=0) (len:=xp.length) (cap:=none) (fz:=false) z7 xp (by kernel_rfl) (by omega)) (Ai (zF (q:=lr_ranges_Times_1_3 (yG++[(⟨w64 (yU * k.lo),w64 ((w64 (0 - x.lo)) * k.hi)⟩:Sn)])) (lp_ranges_Times_1_3 (yG++[(⟨w64 (yU * k.lo),w64 ((w64 (0 - x.lo)) * k.hi)⟩:Sn)]) (yG++[(⟨w64 (yU * k.lo),w64 ((w64 (0 - x.lo)) * k.hi)⟩:Sn)]) 0 yP (List.drop_zero) (Nat.zero_le _) (by simp only [List.length_append,List.length_cons,List.length_nil] at * <;> omega) (by omega) (by simp only [List.length_append,List.length_cons,List.length_nil] at * <;> omega)) h47) (Ai p17 (Ai p16 (Ai p15 trivial))))) (by kernel_rfl)
  | x1 yG yU =>
   try dsimp only
   have hv_h46:=ivt_ranges_products_3p2 k (w64 (0 - x.lo)) (zl (w64 (0 - x.hi)) 0) 2051 (yq _ _ _)
   rw [h46] at hv_h46
   have hv_h46_0:=hv_h46
   try dsimp only [iv_ranges_products_3p2] at hv_h46_0
   have p18:=(show (lim cfg).inl 72 [I (zl (w64 (0 - x.hi)) 0),I (w64 (0 - x.lo)),.agg [I k.lo,I k.hi]] [] 3=some (.lsl 6 0 ((yG++[(⟨w64 (yU * k.lo),w64 (yU * k.hi)⟩:Sn)]).length) 2 none,[(3,⟨[.agg [I k.lo,I k.hi]],2,false⟩),(5,⟨[.agg [I (w64 (yU * k.lo)),I (w64 (yU * k.hi))]],2,false⟩),(6,⟨(yG++[(⟨w64 (yU * k.lo),w64 (yU * k.hi)⟩:Sn)]).map Sn.D,2,false⟩)],7) from zH [.loop (.exit 0) (sd40018 6 5 3 4 7 yG yU k x)] (Ai (zF (q:=lr_ranges_products_3p2 k (w64 (0 - x.lo)) (zl (w64 (0 - x.hi)) 0)) (lp_ranges_products_3p2 k (w64 (0 - x.lo)) (zl (w64 (0 - x.hi)) 0) 2051 (yq _ _ _)) h46) trivial) (by kernel_rfl))
   have p19:=(gc_of (C:=cfg) (f:=71) (a:=lp71_3) (ks:=[4,22,23,24]) (st:=(sd40051 6 0 2 1 3 5 7 yG yU k x yP)) (st1:=(sd40052 0 1 2 yP yG yU k)) (by kernel_rfl) (by (simp only [sd40051,sd40052,go_sem,List.length_set,Nat.reduceAdd,Nat.reduceEqDiff,Nat.reduceLT,Nat.reduceLeDiff,bI2,zc.idsL,zc.renL,zc.snapAll,z7.idsL,z7.renL,z7.snapAll]) <;> rfl))
   cases h48:zD (yG++[(⟨w64 (yU * k.lo),w64 (yU * k.hi)⟩:Sn)]) yP with
   | x0 xp =>
    try dsimp only
    have hv_h48:=ivt_ranges_Times_1_3 (yG++[(⟨w64 (yU * k.lo),w64 (yU * k.hi)⟩:Sn)]) (yG++[(⟨w64 (yU * k.lo),w64 (yU * k.hi)⟩:Sn)]) 0 yP (List.drop_zero) (Nat.zero_le _) (by simp only [List.length_append,List.length_cons,List.length_nil] at * <;> omega) (by omega) (by simp only [List.length_append,List.length_cons,List.length_nil] at * <;> omega)
    rw [h48] at hv_h48
    have hv_h48_0:=hv_h48
    try dsimp only [iv_ranges_Times_1_3] at hv_h48_0
    exact po_pureS ((ranges_Times_1_o10 k yP xp yG yU)++[]) [(0,.sl false (xp.map Sn.D) 2 none,[0])] (Ai (snap_row (gO:=zt [(0,⟨xp.map Sn.D,2,false⟩),(1,⟨(yG++[(⟨w64 (yU * k.lo),w64 (yU * k.hi)⟩:Sn)]).map Sn.D,2,false⟩)]) (o:=0) (len:=xp.length) (cap:=none) (fz:=false) z7 xp (by kernel_rfl) (by omega)) (Ai (zF (q:=lr_ranges_Times_1_3 (yG++[(⟨w64 (yU * k.lo),w64 (yU * k.hi)⟩:Sn)])) (lp_ranges_Times_1_3 (yG++[(⟨w64 (yU * k.lo),w64 (yU * k.hi)⟩:Sn)]) (yG++[(⟨w64 (yU * k.lo),w64 (yU * k.hi)⟩:Sn)]) 0 yP (List.drop_zero) (Nat.zero_le _) (by simp only [List.length_append,List.length_cons,List.length_nil] at * <;> omega) (by omega) (by simp only [List.length_append,List.length_cons,List.length_nil] at * <;> omega)) h48) (Ai p19 (Ai p18 (Ai p15 trivial))))) (by kernel_rfl)
  | x2 yG yU =>
   try dsimp only
   have hv_h46:=ivt_ranges_products_3p2 k (w64 (0 - x.lo)) (zl (w64 (0 - x.hi)) 0) 2051 (yq _ _ _)
   rw [h46] at hv_h46
   have hv_h46_0:=hv_h46
   try dsimp only [iv_ranges_products_3p2] at hv_h46_0
   have p20:=(show (lim cfg).inl 72 [I (zl (w64 (0 - x.hi)) 0),I (w64 (0 - x.lo)),.agg [I k.lo,I k.hi]] [] 3=some (.lsl 4 0 yG.length 2 none,[(3,⟨[.agg [I k.lo,I k.hi]],2,false⟩),(4,⟨yG.map Sn.D,2,false⟩)],5) from zH [.loop (.exit 0) (sd40022 3 4 5 x yU yG k)] (Ai (zF (q:=lr_ranges_products_3p2 k (w64 (0 - x.lo)) (zl (w64 (0 - x.hi)) 0)) (lp_ranges_products_3p2 k (w64 (0 - x.lo)) (zl (w64 (0 - x.hi)) 0) 2051 (yq _ _ _)) h46) trivial) (by kernel_rfl))
   have p21:=(gc_of (C:=cfg) (f:=71) (a:=lp71_3) (ks:=[4,22,23,24]) (st:=(sd40053 4 0 2 1 3 5 yG k x yP)) (st1:=(sd40054 0 1 2 yP yG)) (by kernel_rfl) (by (simp only [sd40053,sd40054,go_sem,List.length_set,Nat.reduceAdd,Nat.reduceEqDiff,Nat.reduceLT,Nat.reduceLeDiff,bI2,zc.idsL,zc.renL,zc.snapAll,z7.idsL,z7.renL,z7.snapAll]) <;> rfl))
   cases h49:zD yG yP with
   | x0 xp =>
    try dsimp only
    have hv_h49:=ivt_ranges_Times_1_3 yG yG 0 yP (List.drop_zero) (Nat.zero_le _) (by omega) (by omega) (by omega)
    rw [h49] at hv_h49
    have hv_h49_0:=hv_h49
    try dsimp only [iv_ranges_Times_1_3] at hv_h49_0
    exact po_pureS ((ranges_Times_1_o11 k yP xp yG)++[]) [(0,.sl false (xp.map Sn.D) 2 none,[0])] (Ai (snap_row (gO:=zt [(0,⟨xp.map Sn.D,2,false⟩),(1,⟨yG.map Sn.D,2,false⟩)]) (o:=0) (len:=xp.length) (cap:=none) (fz:=false) z7 xp (by kernel_rfl) (by omega)) (Ai (zF (q:=lr_ranges_Times_1_3 yG) (lp_ranges_Times_1_3 yG yG 0 yP (List.drop_zero) (Nat.zero_le _) (by omega) (by omega) (by omega)) h49) (Ai p21 (Ai p20 (Ai p15 trivial))))) (by kernel_rfl)
  | x3 =>
   try dsimp only
   have l5:=(app_row (f:=Sn.D) (te:=zS) (gO:=zt [(0,⟨yP.map Sn.D,2,false⟩),(1,⟨[.agg [I (w64 ((zl (w64 (0 - x.hi)) 0) * k.lo)),I (w64 ((w64 (0 - x.lo)) * k.hi))]],2,false⟩),(2,⟨[.agg [I (w64 ((zl (w64 (0 - x.hi)) 0) * k.lo)),I (w64 ((w64 (0 - x.lo)) * k.hi))]],2,false⟩),(3,⟨[.agg [I (w64 (0 - (w64 ((w64 (0 - x.lo)) * k.hi)))),I (w64 (0 - (w64 ((zl (w64 (0 - x.hi)) 0) * k.lo))))]],2,false⟩)]) (nxt:=4) (o:=0) (o2:=3) (fz:=false) z7 yP (⟨w64 (0 - (w64 ((w64 (0 - x.lo)) * k.hi))),w64 (0 - (w64 ((zl (w64 (0 - x.hi)) 0) * k.lo)))⟩:Sn) (by kernel_rfl) (by kernel_rfl) rfl (by kernel_rfl) (by decide) ⟨by simp only [zS,big] <;> (omega),by simp only [big] <;> (omega)⟩)
   have l6:=(show ∀ q,(lim cfg).loop 71 lp71_3 (sd40056 0 1 2 yP x k)=some q→(lim cfg).loop 71 lp71_3 (sd40055 0 1 2 yP x k)=some q from fun q hq=>zN (ks:=[4,22,23,24]) (st':=(sd40057 4 3 2 0 1 5 yP x k)) (st1:=(sd40056 0 1 2 yP x k)) [.dec true,.op (some 37) ⟨.lsl 4 0 ((yP++[(⟨w64 (0 - (w64 ((w64 (0 - x.lo)) * k.hi))),w64 (0 - (w64 ((zl (w64 (0 - x.hi)) 0) * k.lo)))⟩:Sn)]).length) 2 none,[(0,none),(4,some ⟨(yP++[(⟨w64 (0 - (w64 ((w64 (0 - x.lo)) * k.hi))),w64 (0 - (w64 ((zl (w64 (0 - x.hi)) 0) * k.lo)))⟩:Sn)]).map Sn.D,2,false⟩)],[0,3],5⟩,.rw 38 (I 1)] (Ai (zadd_rw (x:=1) (by omega)) (Ai (l5) (Ai (Eq.refl true) trivial))) (by kernel_rfl) (by (simp only [sd40056,sd40057,go_sem,List.length_set,Nat.reduceAdd,Nat.reduceEqDiff,Nat.reduceLT,Nat.reduceLeDiff,bI2,zc.idsL,zc.renL,zc.snapAll,z7.idsL,z7.renL,z7.snapAll]) <;> rfl) hq (by kernel_rfl))
   exact po_pureS [.inl (.lsl 2 0 yP.length 2 none) [(1,⟨[.agg [I k.lo,I k.hi]],2,false⟩),(2,⟨yP.map Sn.D,2,false⟩)] 3,.inl (.lsl 5 0 1 2 none) [(3,⟨[.agg [I k.lo,I k.hi]],2,false⟩),(4,⟨[.agg [I (w64 ((zl (w64 (0 - x.hi)) 0) * k.lo)),I (w64 ((w64 (0 - x.lo)) * k.hi))]],2,false⟩),(5,⟨[.agg [I (w64 ((zl (w64 (0 - x.hi)) 0) * k.lo)),I (w64 ((w64 (0 - x.lo)) * k.hi))]],2,false⟩)] 6,.gloop (sd40055 0 1 2 yP x k) (.exit 0) (sd40058 0 1 2 yP x k)] [(0,.sl false ((yP++[(⟨w64 (0 - (w64 ((w64 (0 - x.lo)) * k.hi))),w64 (0 - (w64 ((zl (w64 (0 - x.hi)) 0) * k.lo)))⟩:Sn)]).map Sn.D) 2 none,[0])] (Ai (snap_row (gO:=zt [(0,⟨(yP++[(⟨w64 (0 - (w64 ((w64 (0 - x.lo)) * k.hi))),w64 (0 - (w64 ((zl (w64 (0 - x.hi)) 0) * k.lo)))⟩:Sn)]).map Sn.D,2,false⟩),(1,⟨[.agg [I (w64 ((zl (w64 (0 - x.hi)) 0) * k.lo)),I (w64 ((w64 (0 - x.lo)) * k.hi))]],2,false⟩)]) (o:=0) (len:=(yP++[(⟨w64 (0 - (w64 ((w64 (0 - x.lo)) * k.hi))),w64 (0 - (w64 ((zl (w64 (0 - x.hi)) 0) * k.lo)))⟩:Sn)]).length) (cap:=none) (fz:=false) z7 (yP++[(⟨w64 (0 - (w64 ((w64 (0 - x.lo)) * k.hi))),w64 (0 - (w64 ((zl (w64 (0 - x.hi)) 0) * k.lo)))⟩:Sn)]) (by kernel_rfl) (by omega)) (Ai (show (lim cfg).loop 71 lp71_3 (sd40055 0 1 2 yP x k)=some ((.exit 0),(sd40058 0 1 2 yP x k)) from (l6 _ (zy [.dec false] (Ai (Eq.refl false) trivial) (by kernel_rfl)))) (Ai (gc_of (C:=cfg) (f:=71) (a:=lp71_3) (ks:=[4,22,23,24]) (st:=(sd40059 5 0 2 1 3 4 6 k x yP)) (st1:=(sd40055 0 1 2 yP x k)) (by kernel_rfl) (by (simp only [sd40055,sd40059,go_sem,List.length_set,Nat.reduceAdd,Nat.reduceEqDiff,Nat.reduceLT,Nat.reduceLeDiff,bI2,zc.idsL,zc.renL,zc.snapAll,z7.idsL,z7.renL,z7.snapAll]) <;> rfl)) (Ai (show (lim cfg).inl 72 [I (zl (w64 (0 - x.hi)) 0),I (w64 (0 - x.lo)),.agg [I k.lo,I k.hi]] [] 3=some (.lsl 5 0 1 2 none,[(3,⟨[.agg [I k.lo,I k.hi]],2,false⟩),(4,⟨[.agg [I (w64 ((zl (w64 (0 - x.hi)) 0) * k.lo)),I (w64 ((w64 (0 - x.lo)) * k.hi))]],2,false⟩),(5,⟨[.agg [I (w64 ((zl (w64 (0 - x.hi)) 0) * k.lo)),I (w64 ((w64 (0 - x.lo)) * k.hi))]],2,false⟩)],6) from zH [.loop .ret (sd40025 5 4 3 6 x k)] (Ai (zF (q:=lr_ranges_products_3p2 k (w64 (0 - x.lo)) (zl (w64 (0 - x.hi)) 0)) (lp_ranges_products_3p2 k (w64 (0 - x.lo)) (zl (w64 (0 - x.hi)) 0) 2051 (yq _ _ _)) h46) trivial) (by kernel_rfl)) (Ai p15 trivial))))) (by kernel_rfl)
  | x4 =>
   try dsimp only
   exact po_pureS [.inl (.lsl 2 0 yP.length 2 none) [(1,⟨[.agg [I k.lo,I k.hi]],2,false⟩),(2,⟨yP.map Sn.D,2,false⟩)] 3,.inl (.sl true [] 0 none) [(3,⟨[.agg [I k.lo,I k.hi]],2,false⟩)] 4,.gloop ⟨40,[(4,.lsl 0 0 yP.length 2 none),(22,.sl true [] 0 none),(23,I 0),(24,I 0)],[(0,⟨yP.map Sn.D,2,false⟩)],1,0⟩ (.exit 0) ⟨40,[(25,B false),(4,.lsl 0 0 yP.length 2 none),(22,.sl true [] 0 none),(23,I 0),(24,I 0)],[(0,⟨yP.map Sn.D,2,false⟩)],1,0⟩] [(0,.sl false (yP.map Sn.D) 2 none,[0])] (Ai (snap_row (gO:=zt [(0,⟨yP.map Sn.D,2,false⟩)]) (o:=0) (len:=yP.length) (cap:=none) (fz:=false) z7 yP (by kernel_rfl) (by omega)) (Ai (show (lim cfg).loop 71 lp71_3 ⟨40,[(4,.lsl 0 0 yP.length 2 none),(22,.sl true [] 0 none),(23,I 0),(24,I 0)],[(0,⟨yP.map Sn.D,2,false⟩)],1,0⟩=some ((.exit 0),⟨40,[(25,B false),(4,.lsl 0 0 yP.length 2 none),(22,.sl true [] 0 none),(23,I 0),(24,I 0)],[(0,⟨yP.map Sn.D,2,false⟩)],1,0⟩) from (zy [.dec false] (Ai (Eq.refl false) trivial) (by kernel_rfl))) (Ai (gc_of (C:=cfg) (f:=71) (a:=lp71_3) (ks:=[4,22,23,24]) (st:=(sd40060 0 2 1 3 4 k x yP)) (st1:=⟨40,[(4,.lsl 0 0 yP.length 2 none),(22,.sl true [] 0 none),(23,I 0),(24,I 0)],[(0,⟨yP.map Sn.D,2,false⟩)],1,0⟩) (by kernel_rfl) (by (simp only [sd40060,go_sem,List.length_set,Nat.reduceAdd,Nat.reduceEqDiff,Nat.reduceLT,Nat.reduceLeDiff,bI2,zc.idsL,zc.renL,zc.snapAll,z7.idsL,z7.renL,z7.snapAll]) <;> rfl)) (Ai (show (lim cfg).inl 72 [I (zl (w64 (0 - x.hi)) 0),I (w64 (0 - x.lo)),.agg [I k.lo,I k.hi]] [] 3=some (.sl true [] 0 none,[(3,⟨[.agg [I k.lo,I k.hi]],2,false⟩)],4) from zH [.loop (.exit 0) (sd40031 3 4 x k)] (Ai (zF (q:=lr_ranges_products_3p2 k (w64 (0 - x.lo)) (zl (w64 (0 - x.hi)) 0)) (lp_ranges_products_3p2 k (w64 (0 - x.lo)) (zl (w64 (0 - x.hi)) 0) 2051 (yq _ _ _)) h46) trivial) (by kernel_rfl)) (Ai p15 trivial))))) (by kernel_rfl)
  | out =>
   exact absurd h46 ((yq _ _ _))
 | x3 =>
  try dsimp only
  have p22:=(show (lim cfg).inl 72 [I (zl x.lo 0),I x.hi,.agg [I k.lo,I k.hi]] [] 1=some (.lsl 3 0 1 2 none,[(1,⟨[.agg [I k.lo,I k.hi]],2,false⟩),(2,⟨[.agg [I (w64 ((zl x.lo 0) * k.lo)),I (w64 (x.hi * k.hi))]],2,false⟩),(3,⟨[.agg [I (w64 ((zl x.lo 0) * k.lo)),I (w64 (x.hi * k.hi))]],2,false⟩)],4) from zH [.loop .ret (sd40061 3 2 1 4 x k)] (Ai (zF (q:=lr_ranges_products_3 x k (zl x.lo 0)) (lp_ranges_products_3 x k (zl x.lo 0) 2051 (ranges_products_3_ne _ _ _)) h13) trivial) (by kernel_rfl))
  cases h62:yf k (w64 (0 - x.lo)) (zl (w64 (0 - x.hi)) 0) 2051 with
  | x0 yI yV =>
   try dsimp only
   have hv_h62:=ivt_ranges_products_3p3 k (w64 (0 - x.lo)) (zl (w64 (0 - x.hi)) 0) 2051 (yt _ _ _)
   rw [h62] at hv_h62
   have hv_h62_0:=hv_h62
   try dsimp only [iv_ranges_products_3p3] at hv_h62_0
   have p23:=(show (lim cfg).inl 72 [I (zl (w64 (0 - x.hi)) 0),I (w64 (0 - x.lo)),.agg [I k.lo,I k.hi]] [] 4=some (.lsl 7 0 ((yI++[(⟨w64 (yV * k.lo),w64 ((w64 (0 - x.lo)) * k.hi)⟩:Sn)]).length) 2 none,[(4,⟨[.agg [I k.lo,I k.hi]],2,false⟩),(6,⟨[.agg [I (w64 (yV * k.lo)),I (w64 ((w64 (0 - x.lo)) * k.hi))]],2,false⟩),(7,⟨(yI++[(⟨w64 (yV * k.lo),w64 ((w64 (0 - x.lo)) * k.hi)⟩:Sn)]).map Sn.D,2,false⟩)],8) from zH [.loop .ret (sd40012 7 6 4 5 8 yI yV k x)] (Ai (zF (q:=lr_ranges_products_3p3 k (w64 (0 - x.lo)) (zl (w64 (0 - x.hi)) 0)) (lp_ranges_products_3p3 k (w64 (0 - x.lo)) (zl (w64 (0 - x.hi)) 0) 2051 (yt _ _ _)) h62) trivial) (by kernel_rfl))
   have p24:=(gc_of (C:=cfg) (f:=71) (a:=lp71_3) (ks:=[4,22,23,24]) (st:=(sd40062 7 0 3 1 2 4 6 8 yI yV k x)) (st1:=(sd40063 0 1 2 yI yV k x)) (by kernel_rfl) (by (simp only [sd40062,sd40063,go_sem,List.length_set,Nat.reduceAdd,Nat.reduceEqDiff,Nat.reduceLT,Nat.reduceLeDiff,bI2,zc.idsL,zc.renL,zc.snapAll,z7.idsL,z7.renL,z7.snapAll]) <;> rfl))
   cases h63:zZ (yI++[(⟨w64 (yV * k.lo),w64 ((w64 (0 - x.lo)) * k.hi)⟩:Sn)]) [(⟨(w64 ((zl x.lo 0) * k.lo)),(w64 (x.hi * k.hi))⟩:Sn)] with
   | x0 xv =>
    try dsimp only
    have hv_h63:=ivt_ranges_Times_1_3p1 (yI++[(⟨w64 (yV * k.lo),w64 ((w64 (0 - x.lo)) * k.hi)⟩:Sn)]) (yI++[(⟨w64 (yV * k.lo),w64 ((w64 (0 - x.lo)) * k.hi)⟩:Sn)]) 0 [(⟨(w64 ((zl x.lo 0) * k.lo)),(w64 (x.hi * k.hi))⟩:Sn)] (List.drop_zero) (Nat.zero_le _) (by simp only [List.length_append,List.length_cons,List.length_nil] at * <;> omega) (by simp only [List.length_append,List.length_cons,List.length_nil] at * <;> omega) (by simp only [List.length_append,List.length_cons,List.length_nil] at * <;> omega)
    rw [h63] at hv_h63
    have hv_h63_0:=hv_h63
    try dsimp only [iv_ranges_Times_1_3p1] at hv_h63_0
    exact po_pureS ((ranges_Times_1_o12 x k)++((ranges_Times_1_o13 x k yI yV xv)++[])) [(0,.sl false (xv.map Sn.D) 2 none,[0])] (Ai (snap_row (gO:=zt [(0,⟨xv.map Sn.D,2,false⟩),(1,⟨(yI++[(⟨w64 (yV * k.lo),w64 ((w64 (0 - x.lo)) * k.hi)⟩:Sn)]).map Sn.D,2,false⟩)]) (o:=0) (len:=xv.length) (cap:=none) (fz:=false) z7 xv (by kernel_rfl) (by omega)) (Ai (zF (q:=lr_ranges_Times_1_3p1 (yI++[(⟨w64 (yV * k.lo),w64 ((w64 (0 - x.lo)) * k.hi)⟩:Sn)])) (lp_ranges_Times_1_3p1 (yI++[(⟨w64 (yV * k.lo),w64 ((w64 (0 - x.lo)) * k.hi)⟩:Sn)]) (yI++[(⟨w64 (yV * k.lo),w64 ((w64 (0 - x.lo)) * k.hi)⟩:Sn)]) 0 [(⟨(w64 ((zl x.lo 0) * k.lo)),(w64 (x.hi * k.hi))⟩:Sn)] (List.drop_zero) (Nat.zero_le _) (by simp only [List.length_append,List.length_cons,List.length_nil] at * <;> omega) (by simp only [List.length_append,List.length_cons,List.length_nil] at * <;> omega) (by simp only [List.length_append,List.length_cons,List.length_nil] at * <;> omega)) h63) (Ai p24 (Ai p23 (Ai p22 trivial))))) (by kernel_rfl)
  | x1 yI yV =>
   try dsimp only
   have hv_h62:=ivt_ranges_products_3p3 k (w64 (0 - x.lo)) (zl (w64 (0 - x.hi)) 0) 2051 (yt _ _ _)
   rw [h62] at hv_h62
   have hv_h62_0:=hv_h62
   try dsimp only [iv_ranges_products_3p3] at hv_h62_0
   have p25:=(show (lim cfg).inl 72 [I (zl (w64 (0 - x.hi)) 0),I (w64 (0 - x.lo)),.agg [I k.lo,I k.hi]] [] 4=some (.lsl 7 0 ((yI++[(⟨w64 (yV * k.lo),w64 (yV * k.hi)⟩:Sn)]).length) 2 none,[(4,⟨[.agg [I k.lo,I k.hi]],2,false⟩),(6,⟨[.agg [I (w64 (yV * k.lo)),I (w64 (yV * k.hi))]],2,false⟩),(7,⟨(yI++[(⟨w64 (yV * k.lo),w64 (yV * k.hi)⟩:Sn)]).map Sn.D,2,false⟩)],8) from zH [.loop (.exit 0) (sd40018 7 6 4 5 8 yI yV k x)] (Ai (zF (q:=lr_ranges_products_3p3 k (w64 (0 - x.lo)) (zl (w64 (0 - x.hi)) 0)) (lp_ranges_products_3p3 k (w64 (0 - x.lo)) (zl (w64 (0 - x.hi)) 0) 2051 (yt _ _ _)) h62) trivial) (by kernel_rfl))
   have p26:=(gc_of (C:=cfg) (f:=71) (a:=lp71_3) (ks:=[4,22,23,24]) (st:=(sd40064 7 0 3 1 2 4 6 8 yI yV k x)) (st1:=(sd40065 0 1 2 yI yV k x)) (by kernel_rfl) (by (simp only [sd40064,sd40065,go_sem,List.length_set,Nat.reduceAdd,Nat.reduceEqDiff,Nat.reduceLT,Nat.reduceLeDiff,bI2,zc.idsL,zc.renL,zc.snapAll,z7.idsL,z7.renL,z7.snapAll]) <;> rfl))
   cases h64:zZ (yI++[(⟨w64 (yV * k.lo),w64 (yV * k.hi)⟩:Sn)]) [(⟨(w64 ((zl x.lo 0) * k.lo)),(w64 (x.hi * k.hi))⟩:Sn)] with
   | x0 xv =>
    try dsimp only
    have hv_h64:=ivt_ranges_Times_1_3p1 (yI++[(⟨w64 (yV * k.lo),w64 (yV * k.hi)⟩:Sn)]) (yI++[(⟨w64 (yV * k.lo),w64 (yV * k.hi)⟩:Sn)]) 0 [(⟨(w64 ((zl x.lo 0) * k.lo)),(w64 (x.hi * k.hi))⟩:Sn)] (List.drop_zero) (Nat.zero_le _) (by simp only [List.length_append,List.length_cons,List.length_nil] at * <;> omega) (by simp only [List.length_append,List.length_cons,List.length_nil] at * <;> omega) (by simp only [List.length_append,List.length_cons,List.length_nil] at * <;> omega)
    rw [h64] at hv_h64
    have hv_h64_0:=hv_h64
    try dsimp only [iv_ranges_Times_1_3p1] at hv_h64_0
    exact po_pureS ((ranges_Times_1_o12 x k)++((ranges_Times_1_o14 x k yI yV xv)++[])) [(0,.sl false (xv.map Sn.D) 2 none,[0])] (Ai (snap_row (gO:=zt [(0,⟨xv.map Sn.D,2,false⟩),(1,⟨(yI++[(⟨w64 (yV * k.lo),w64 (yV * k.hi)⟩:Sn)]).map Sn.D,2,false⟩)]) (o:=0) (len:=xv.length) (cap:=none) (fz:=false) z7 xv (by kernel_rfl) (by omega)) (Ai (zF (q:=lr_ranges_Times_1_3p1 (yI++[(⟨w64 (yV * k.lo),w64 (yV * k.hi)⟩:Sn)])) (lp_ranges_Times_1_3p1 (yI++[(⟨w64 (yV * k.lo),w64 (yV * k.hi)⟩:Sn)]) (yI++[(⟨w64 (yV * k.lo),w64 (yV * k.hi)⟩:Sn)]) 0 [(⟨(w64 ((zl x.lo 0) * k.lo)),(w64 (x.hi * k.hi))⟩:Sn)] (List.drop_zero) (Nat.zero_le _) (by simp only [List.length_append,List.length_cons,List.length_nil] at * <;> omega) (by simp only [List.length_append,List.length_cons,List.length_nil] at * <;> omega) (by simp only [List.length_append,List.length_cons,List.length_nil] at * <;> omega)) h64) (Ai p26 (Ai p25 (Ai p22 trivial))))) (by kernel_rfl)
  | x2 yI yV =>
   try dsimp only
   have hv_h62:=ivt_ranges_products_3p3 k (w64 (0 - x.lo)) (zl (w64 (0 - x.hi)) 0) 2051 (yt _ _ _)
   rw [h62] at hv_h62
   have hv_h62_0:=hv_h62
   try dsimp only [iv_ranges_products_3p3] at hv_h62_0
   have p27:=(show (lim cfg).inl 72 [I (zl (w64 (0 - x.hi)) 0),I (w64 (0 - x.lo)),.agg [I k.lo,I k.hi]] [] 4=some (.lsl 5 0 yI.length 2 none,[(4,⟨[.agg [I k.lo,I k.hi]],2,false⟩),(5,⟨yI.map Sn.D,2,false⟩)],6) from zH [.loop (.exit 0) (sd40022 4 5 6 x yV yI k)] (Ai (zF (q:=lr_ranges_products_3p3 k (w64 (0 - x.lo)) (zl (w64 (0 - x.hi)) 0)) (lp_ranges_products_3p3 k (w64 (0 - x.lo)) (zl (w64 (0 - x.hi)) 0) 2051 (yt _ _ _)) h62) trivial) (by kernel_rfl))
   have p28:=(gc_of (C:=cfg) (f:=71) (a:=lp71_3) (ks:=[4,22,23,24]) (st:=(sd40066 5 0 3 1 2 4 6 yI k x)) (st1:=(sd40067 0 1 2 yI x k)) (by kernel_rfl) (by (simp only [sd40066,sd40067,go_sem,List.length_set,Nat.reduceAdd,Nat.reduceEqDiff,Nat.reduceLT,Nat.reduceLeDiff,bI2,zc.idsL,zc.renL,zc.snapAll,z7.idsL,z7.renL,z7.snapAll]) <;> rfl))
   cases h65:zZ yI [(⟨(w64 ((zl x.lo 0) * k.lo)),(w64 (x.hi * k.hi))⟩:Sn)] with
   | x0 xv =>
    try dsimp only
    have hv_h65:=ivt_ranges_Times_1_3p1 yI yI 0 [(⟨(w64 ((zl x.lo 0) * k.lo)),(w64 (x.hi * k.hi))⟩:Sn)] (List.drop_zero) (Nat.zero_le _) (by omega) (by simp only [List.length_append,List.length_cons,List.length_nil] at * <;> omega) (by omega)
    rw [h65] at hv_h65
    have hv_h65_0:=hv_h65
    try dsimp only [iv_ranges_Times_1_3p1] at hv_h65_0
    exact po_pureS ((ranges_Times_1_o12 x k)++((ranges_Times_1_o15 x k yI xv)++[])) [(0,.sl false (xv.map Sn.D) 2 none,[0])] (Ai (snap_row (gO:=zt [(0,⟨xv.map Sn.D,2,false⟩),(1,⟨yI.map Sn.D,2,false⟩)]) (o:=0) (len:=xv.length) (cap:=none) (fz:=false) z7 xv (by kernel_rfl) (by omega)) (Ai (zF (q:=lr_ranges_Times_1_3p1 yI) (lp_ranges_Times_1_3p1 yI yI 0 [(⟨(w64 ((zl x.lo 0) * k.lo)),(w64 (x.hi * k.hi))⟩:Sn)] (List.drop_zero) (Nat.zero_le _) (by omega) (by simp only [List.length_append,List.length_cons,List.length_nil] at * <;> omega) (by omega)) h65) (Ai p28 (Ai p27 (Ai p22 trivial))))) (by kernel_rfl)
  | x3 =>
   try dsimp only
   have l7:=(show ∀ q,(lim cfg).loop 71 lp71_3 (sd40069 0 1 2 x k)=some q→(lim cfg).loop 71 lp71_3 (sd40068 0 1 2 x k)=some q from fun q hq=>po_turn (st1:=(sd40069 0 1 2 x k)) [.dec true,.rw 38 (I 1)] (Ai (zadd_rw (x:=1) (by omega)) (Ai (Eq.refl true) trivial)) hq (by kernel_rfl))
   exact zo ((ranges_Times_1_o12 x k)++[.inl (.lsl 6 0 1 2 none) [(4,⟨[.agg [I k.lo,I k.hi]],2,false⟩),(5,⟨[.agg [I (w64 ((zl (w64 (0 - x.hi)) 0) * k.lo)),I (w64 ((w64 (0 - x.lo)) * k.hi))]],2,false⟩),(6,⟨[.agg [I (w64 ((zl (w64 (0 - x.hi)) 0) * k.lo)),I (w64 ((w64 (0 - x.lo)) * k.hi))]],2,false⟩)] 7,.loop (.exit 0) (sd40070 0 1 2 x k)]) (Ai (show (lim cfg).loop 71 lp71_3 (sd40068 0 1 2 x k)=some ((.exit 0),(sd40070 0 1 2 x k)) from (l7 _ (zy [.dec false] (Ai (Eq.refl false) trivial) (by kernel_rfl)))) (Ai (show (lim cfg).inl 72 [I (zl (w64 (0 - x.hi)) 0),I (w64 (0 - x.lo)),.agg [I k.lo,I k.hi]] [] 4=some (.lsl 6 0 1 2 none,[(4,⟨[.agg [I k.lo,I k.hi]],2,false⟩),(5,⟨[.agg [I (w64 ((zl (w64 (0 - x.hi)) 0) * k.lo)),I (w64 ((w64 (0 - x.lo)) * k.hi))]],2,false⟩),(6,⟨[.agg [I (w64 ((zl (w64 (0 - x.hi)) 0) * k.lo)),I (w64 ((w64 (0 - x.lo)) * k.hi))]],2,false⟩)],7) from zH [.loop .ret (sd40025 6 5 4 7 x k)] (Ai (zF (q:=lr_ranges_products_3p3 k (w64 (0 - x.lo)) (zl (w64 (0 - x.hi)) 0)) (lp_ranges_products_3p3 k (w64 (0 - x.lo)) (zl (w64 (0 - x.hi)) 0) 2051 (yt _ _ _)) h62) trivial) (by kernel_rfl)) (Ai p22 trivial))) (by kernel_rfl)
  | x4 =>
   try dsimp only
   exact zo ((ranges_Times_1_o12 x k)++[.inl (.sl true [] 0 none) [(4,⟨[.agg [I k.lo,I k.hi]],2,false⟩)] 5,.loop (.exit 0) (sd40072 0 1 x k)]) (Ai (show (lim cfg).loop 71 lp71_3 (sd40071 0 1 x k)=some ((.exit 0),(sd40072 0 1 x k)) from (zy [.dec false] (Ai (Eq.refl false) trivial) (by kernel_rfl))) (Ai (show (lim cfg).inl 72 [I (zl (w64 (0 - x.hi)) 0),I (w64 (0 - x.lo)),.agg [I k.lo,I k.hi]] [] 4=some (.sl true [] 0 none,[(4,⟨[.agg [I k.lo,I k.hi]],2,false⟩)],5) from zH [.loop (.exit 0) (sd40031 4 5 x k)] (Ai (zF (q:=lr_ranges_products_3p3 k (w64 (0 - x.lo)) (zl (w64 (0 - x.hi)) 0)) (lp_ranges_products_3p3 k (w64 (0 - x.lo)) (zl (w64 (0 - x.hi)) 0) 2051 (yt _ _ _)) h62) trivial) (by kernel_rfl)) (Ai p22 trivial))) (by kernel_rfl)
  | out =>
   exact absurd h62 ((yt _ _ _))
 | x4 =>
  try dsimp only
  have p29:=(show (lim cfg).inl 72 [I (zl x.lo 0),I x.hi,.agg [I k.lo,I k.hi]] [] 1=some (.sl true [] 0 none,[(1,⟨[.agg [I k.lo,I k.hi]],2,false⟩)],2) from zH [.loop (.exit 0) (sd40073 1 2 x k)] (Ai (zF (q:=lr_ranges_products_3 x k (zl x.lo 0)) (lp_ranges_products_3 x k (zl x.lo 0) 2051 (ranges_products_3_ne _ _ _)) h13) trivial) (by kernel_rfl))
  cases h78:yg k (w64 (0 - x.lo)) (zl (w64 (0 - x.hi)) 0) 2051 with
  | x0 yM yT =>
   try dsimp only
   have hv_h78:=ivt_ranges_products_3p4 k (w64 (0 - x.lo)) (zl (w64 (0 - x.hi)) 0) 2051 (yu _ _ _)
   rw [h78] at hv_h78
   have hv_h78_0:=hv_h78
   try dsimp only [iv_ranges_products_3p4] at hv_h78_0
   have p30:=(show (lim cfg).inl 72 [I (zl (w64 (0 - x.hi)) 0),I (w64 (0 - x.lo)),.agg [I k.lo,I k.hi]] [] 2=some (.lsl 5 0 ((yM++[(⟨w64 (yT * k.lo),w64 ((w64 (0 - x.lo)) * k.hi)⟩:Sn)]).length) 2 none,[(2,⟨[.agg [I k.lo,I k.hi]],2,false⟩),(4,⟨[.agg [I (w64 (yT * k.lo)),I (w64 ((w64 (0 - x.lo)) * k.hi))]],2,false⟩),(5,⟨(yM++[(⟨w64 (yT * k.lo),w64 ((w64 (0 - x.lo)) * k.hi)⟩:Sn)]).map Sn.D,2,false⟩)],6) from zH [.loop .ret (sd40012 5 4 2 3 6 yM yT k x)] (Ai (zF (q:=lr_ranges_products_3p4 k (w64 (0 - x.lo)) (zl (w64 (0 - x.hi)) 0)) (lp_ranges_products_3p4 k (w64 (0 - x.lo)) (zl (w64 (0 - x.hi)) 0) 2051 (yu _ _ _)) h78) trivial) (by kernel_rfl))
   have p31:=(gc_of (C:=cfg) (f:=71) (a:=lp71_3) (ks:=[4,22,23,24]) (st:=(sd40076 5 0 1 2 4 6 yM yT k x)) (st1:=(sd40077 0 1 yM yT k x)) (by kernel_rfl) (by (simp only [sd40076,sd40077,go_sem,List.length_set,Nat.reduceAdd,Nat.reduceEqDiff,Nat.reduceLT,Nat.reduceLeDiff,bI2,zc.idsL,zc.renL,zc.snapAll,z7.idsL,z7.renL,z7.snapAll]) <;> rfl))
   cases h79:y8 (yM++[(⟨w64 (yT * k.lo),w64 ((w64 (0 - x.lo)) * k.hi)⟩:Sn)]) with
   | x0 yG =>
    try dsimp only
    have hv_h79:=ivt_ranges_Times_1_3p2 (yM++[(⟨w64 (yT * k.lo),w64 ((w64 (0 - x.lo)) * k.hi)⟩:Sn)]) (yM++[(⟨w64 (yT * k.lo),w64 ((w64 (0 - x.lo)) * k.hi)⟩:Sn)]) 0 (List.drop_zero) (Nat.zero_le _) (by simp only [List.length_append,List.length_cons,List.length_nil] at * <;> omega) (by simp only [List.length_append,List.length_cons,List.length_nil] at * <;> omega)
    rw [h79] at hv_h79
    have hv_h79_0:=hv_h79
    try dsimp only [iv_ranges_Times_1_3p2] at hv_h79_0
    exact po_pureS ((ranges_Times_1_o16 x k yM yT)++[.gloop (sd40077 0 1 yM yT k x) (.exit 0) (sd40017 0 1 2 yG yM yT k x)]) [(0,.sl false (yG.map Sn.D) 2 none,[0])] (Ai (snap_row (gO:=zt [(0,⟨yG.map Sn.D,2,false⟩),(1,⟨(yM++[(⟨w64 (yT * k.lo),w64 ((w64 (0 - x.lo)) * k.hi)⟩:Sn)]).map Sn.D,2,false⟩)]) (o:=0) (len:=yG.length) (cap:=none) (fz:=false) z7 yG (by kernel_rfl) (by omega)) (Ai (zF (q:=lr_ranges_Times_1_3p2 (yM++[(⟨w64 (yT * k.lo),w64 ((w64 (0 - x.lo)) * k.hi)⟩:Sn)])) (lp_ranges_Times_1_3p2 (yM++[(⟨w64 (yT * k.lo),w64 ((w64 (0 - x.lo)) * k.hi)⟩:Sn)]) (yM++[(⟨w64 (yT * k.lo),w64 ((w64 (0 - x.lo)) * k.hi)⟩:Sn)]) 0 (List.drop_zero) (Nat.zero_le _) (by simp only [List.length_append,List.length_cons,List.length_nil] at * <;> omega) (by simp only [List.length_append,List.length_cons,List.length_nil] at * <;> omega)) h79) (Ai p31 (Ai p30 (Ai p29 trivial))))) (by kernel_rfl)
   | x1 =>
    try dsimp only
    exact zo ((ranges_Times_1_o16 x k yM yT)++[.gloop (sd40077 0 1 yM yT k x) (.exit 0) (sd40078 0 1 yM yT k x)]) (Ai (zF (q:=lr_ranges_Times_1_3p2 (yM++[(⟨w64 (yT * k.lo),w64 ((w64 (0 - x.lo)) * k.hi)⟩:Sn)])) (lp_ranges_Times_1_3p2 (yM++[(⟨w64 (yT * k.lo),w64 ((w64 (0 - x.lo)) * k.hi)⟩:Sn)]) (yM++[(⟨w64 (yT * k.lo),w64 ((w64 (0 - x.lo)) * k.hi)⟩:Sn)]) 0 (List.drop_zero) (Nat.zero_le _) (by simp only [List.length_append,List.length_cons,List.length_nil] at * <;> omega) (by simp only [List.length_append,List.length_cons,List.length_nil] at * <;> omega)) h79) (Ai p31 (Ai p30 (Ai p29 trivial)))) (by kernel_rfl)
  | x1 yM yT =>
   try dsimp only
   have hv_h78:=ivt_ranges_products_3p4 k (w64 (0 - x.lo)) (zl (w64 (0 - x.hi)) 0) 2051 (yu _ _ _)
   rw [h78] at hv_h78
   have hv_h78_0:=hv_h78
   try dsimp only [iv_ranges_products_3p4] at hv_h78_0
   have p32:=(show (lim cfg).inl 72 [I (zl (w64 (0 - x.hi)) 0),I (w64 (0 - x.lo)),.agg [I k.lo,I k.hi]] [] 2=some (.lsl 5 0 ((yM++[(⟨w64 (yT * k.lo),w64 (yT * k.hi)⟩:Sn)]).length) 2 none,[(2,⟨[.agg [I k.lo,I k.hi]],2,false⟩),(4,⟨[.agg [I (w64 (yT * k.lo)),I (w64 (yT * k.hi))]],2,false⟩),(5,⟨(yM++[(⟨w64 (yT * k.lo),w64 (yT * k.hi)⟩:Sn)]).map Sn.D,2,false⟩)],6) from zH [.loop (.exit 0) (sd40018 5 4 2 3 6 yM yT k x)] (Ai (zF (q:=lr_ranges_products_3p4 k (w64 (0 - x.lo)) (zl (w64 (0 - x.hi)) 0)) (lp_ranges_products_3p4 k (w64 (0 - x.lo)) (zl (w64 (0 - x.hi)) 0) 2051 (yu _ _ _)) h78) trivial) (by kernel_rfl))
   have p33:=(gc_of (C:=cfg) (f:=71) (a:=lp71_3) (ks:=[4,22,23,24]) (st:=(sd40079 5 0 1 2 4 6 yM yT k x)) (st1:=(sd40080 0 1 yM yT k)) (by kernel_rfl) (by (simp only [sd40079,sd40080,go_sem,List.length_set,Nat.reduceAdd,Nat.reduceEqDiff,Nat.reduceLT,Nat.reduceLeDiff,bI2,zc.idsL,zc.renL,zc.snapAll,z7.idsL,z7.renL,z7.snapAll]) <;> rfl))
   cases h80:y8 (yM++[(⟨w64 (yT * k.lo),w64 (yT * k.hi)⟩:Sn)]) with
   | x0 yG =>
    try dsimp only
    have hv_h80:=ivt_ranges_Times_1_3p2 (yM++[(⟨w64 (yT * k.lo),w64 (yT * k.hi)⟩:Sn)]) (yM++[(⟨w64 (yT * k.lo),w64 (yT * k.hi)⟩:Sn)]) 0 (List.drop_zero) (Nat.zero_le _) (by simp only [List.length_append,List.length_cons,List.length_nil] at * <;> omega) (by simp only [List.length_append,List.length_cons,List.length_nil] at * <;> omega)
    rw [h80] at hv_h80
    have hv_h80_0:=hv_h80
    try dsimp only [iv_ranges_Times_1_3p2] at hv_h80_0
    exact po_pureS ((ranges_Times_1_o17 k yM yT)++[.gloop (sd40080 0 1 yM yT k) (.exit 0) (sd40021 0 1 2 yG yM yT k)]) [(0,.sl false (yG.map Sn.D) 2 none,[0])] (Ai (snap_row (gO:=zt [(0,⟨yG.map Sn.D,2,false⟩),(1,⟨(yM++[(⟨w64 (yT * k.lo),w64 (yT * k.hi)⟩:Sn)]).map Sn.D,2,false⟩)]) (o:=0) (len:=yG.length) (cap:=none) (fz:=false) z7 yG (by kernel_rfl) (by omega)) (Ai (zF (q:=lr_ranges_Times_1_3p2 (yM++[(⟨w64 (yT * k.lo),w64 (yT * k.hi)⟩:Sn)])) (lp_ranges_Times_1_3p2 (yM++[(⟨w64 (yT * k.lo),w64 (yT * k.hi)⟩:Sn)]) (yM++[(⟨w64 (yT * k.lo),w64 (yT * k.hi)⟩:Sn)]) 0 (List.drop_zero) (Nat.zero_le _) (by simp only [List.length_append,List.length_cons,List.length_nil] at * <;> omega) (by simp only [List.length_append,List.length_cons,List.length_nil] at * <;> omega)) h80) (Ai p33 (Ai p32 (Ai p29 trivial))))) (by kernel_rfl)
   | x1 =>
    try dsimp only
    exact zo ((ranges_Times_1_o17 k yM yT)++[.gloop (sd40080 0 1 yM yT k) (.exit 0) (sd40081 0 1 yM yT k)]) (Ai (zF (q:=lr_ranges_Times_1_3p2 (yM++[(⟨w64 (yT * k.lo),w64 (yT * k.hi)⟩:Sn)])) (lp_ranges_Times_1_3p2 (yM++[(⟨w64 (yT * k.lo),w64 (yT * k.hi)⟩:Sn)]) (yM++[(⟨w64 (yT * k.lo),w64 (yT * k.hi)⟩:Sn)]) 0 (List.drop_zero) (Nat.zero_le _) (by simp only [List.length_append,List.length_cons,List.length_nil] at * <;> omega) (by simp only [List.length_append,List.length_cons,List.length_nil] at * <;> omega)) h80) (Ai p33 (Ai p32 (Ai p29 trivial)))) (by kernel_rfl)
  | x2 yM yT =>
   try dsimp only
   have hv_h78:=ivt_ranges_products_3p4 k (w64 (0 - x.lo)) (zl (w64 (0 - x.hi)) 0) 2051 (yu _ _ _)
   rw [h78] at hv_h78
   have hv_h78_0:=hv_h78
   try dsimp only [iv_ranges_products_3p4] at hv_h78_0
   have p34:=(show (lim cfg).inl 72 [I (zl (w64 (0 - x.hi)) 0),I (w64 (0 - x.lo)),.agg [I k.lo,I k.hi]] [] 2=some (.lsl 3 0 yM.length 2 none,[(2,⟨[.agg [I k.lo,I k.hi]],2,false⟩),(3,⟨yM.map Sn.D,2,false⟩)],4) from zH [.loop (.exit 0) (sd40022 2 3 4 x yT yM k)] (Ai (zF (q:=lr_ranges_products_3p4 k (w64 (0 - x.lo)) (zl (w64 (0 - x.hi)) 0)) (lp_ranges_products_3p4 k (w64 (0 - x.lo)) (zl (w64 (0 - x.hi)) 0) 2051 (yu _ _ _)) h78) trivial) (by kernel_rfl))
   have p35:=(gc_of (C:=cfg) (f:=71) (a:=lp71_3) (ks:=[4,22,23,24]) (st:=(sd40082 3 0 1 2 4 yM k x)) (st1:=(sd40083 0 1 yM)) (by kernel_rfl) (by (simp only [sd40082,sd40083,go_sem,List.length_set,Nat.reduceAdd,Nat.reduceEqDiff,Nat.reduceLT,Nat.reduceLeDiff,bI2,zc.idsL,zc.renL,zc.snapAll,z7.idsL,z7.renL,z7.snapAll]) <;> rfl))
   cases h81:y8 yM with
   | x0 yG =>
    try dsimp only
    have hv_h81:=ivt_ranges_Times_1_3p2 yM yM 0 (List.drop_zero) (Nat.zero_le _) (by omega) (by omega)
    rw [h81] at hv_h81
    have hv_h81_0:=hv_h81
    try dsimp only [iv_ranges_Times_1_3p2] at hv_h81_0
    exact po_pureS ((ranges_Times_1_o18 k yM)++[.gloop (sd40083 0 1 yM) (.exit 0) (sd40013 0 1 2 yG yM)]) [(0,.sl false (yG.map Sn.D) 2 none,[0])] (Ai (snap_row (gO:=zt [(0,⟨yG.map Sn.D,2,false⟩),(1,⟨yM.map Sn.D,2,false⟩)]) (o:=0) (len:=yG.length) (cap:=none) (fz:=false) z7 yG (by kernel_rfl) (by omega)) (Ai (zF (q:=lr_ranges_Times_1_3p2 yM) (lp_ranges_Times_1_3p2 yM yM 0 (List.drop_zero) (Nat.zero_le _) (by omega) (by omega)) h81) (Ai p35 (Ai p34 (Ai p29 trivial))))) (by kernel_rfl)
   | x1 =>
    try dsimp only
    exact zo ((ranges_Times_1_o18 k yM)++[.gloop (sd40083 0 1 yM) (.exit 0) (sd40074 0 1 yM)]) (Ai (zF (q:=lr_ranges_Times_1_3p2 yM) (lp_ranges_Times_1_3p2 yM yM 0 (List.drop_zero) (Nat.zero_le _) (by omega) (by omega)) h81) (Ai p35 (Ai p34 (Ai p29 trivial)))) (by kernel_rfl)
  | x3 =>
   try dsimp only
   have l8:=(show ∀ q,(lim cfg).loop 71 lp71_3 (sd40085 0 1 2 x k)=some q→(lim cfg).loop 71 lp71_3 (sd40084 0 1 x k)=some q from fun q hq=>po_turn (st1:=(sd40085 0 1 2 x k)) [.dec true,.rw 38 (I 1)] (Ai (zadd_rw (x:=1) (by omega)) (Ai (Eq.refl true) trivial)) hq (by kernel_rfl))
   exact zo [.inl (.sl true [] 0 none) [(1,⟨[.agg [I k.lo,I k.hi]],2,false⟩)] 2,.inl (.lsl 4 0 1 2 none) [(2,⟨[.agg [I k.lo,I k.hi]],2,false⟩),(3,⟨[.agg [I (w64 ((zl (w64 (0 - x.hi)) 0) * k.lo)),I (w64 ((w64 (0 - x.lo)) * k.hi))]],2,false⟩),(4,⟨[.agg [I (w64 ((zl (w64 (0 - x.hi)) 0) * k.lo)),I (w64 ((w64 (0 - x.lo)) * k.hi))]],2,false⟩)] 5,.loop (.exit 0) (sd40086 0 1 2 x k)] (Ai (show (lim cfg).loop 71 lp71_3 (sd40084 0 1 x k)=some ((.exit 0),(sd40086 0 1 2 x k)) from (l8 _ (zy [.dec false] (Ai (Eq.refl false) trivial) (by kernel_rfl)))) (Ai (show (lim cfg).inl 72 [I (zl (w64 (0 - x.hi)) 0),I (w64 (0 - x.lo)),.agg [I k.lo,I k.hi]] [] 2=some (.lsl 4 0 1 2 none,[(2,⟨[.agg [I k.lo,I k.hi]],2,false⟩),(3,⟨[.agg [I (w64 ((zl (w64 (0 - x.hi)) 0) * k.lo)),I (w64 ((w64 (0 - x.lo)) * k.hi))]],2,false⟩),(4,⟨[.agg [I (w64 ((zl (w64 (0 - x.hi)) 0) * k.lo)),I (w64 ((w64 (0 - x.lo)) * k.hi))]],2,false⟩)],5) from zH [.loop .ret (sd40025 4 3 2 5 x k)] (Ai (zF (q:=lr_ranges_products_3p4 k (w64 (0 - x.lo)) (zl (w64 (0 - x.hi)) 0)) (lp_ranges_products_3p4 k (w64 (0 - x.lo)) (zl (w64 (0 - x.hi)) 0) 2051 (yu _ _ _)) h78) trivial) (by kernel_rfl)) (Ai p29 trivial))) (by kernel_rfl)
  | x4 =>
   try dsimp only
   exact zo [.inl (.sl true [] 0 none) [(1,⟨[.agg [I k.lo,I k.hi]],2,false⟩)] 2,.inl (.sl true [] 0 none) [(2,⟨[.agg [I k.lo,I k.hi]],2,false⟩)] 3,.loop (.exit 0) ⟨40,[(25,B false),(4,.sl true [] 0 none),(22,.sl true [] 0 none),(23,I 0),(24,I 0)],[],0,0⟩] (Ai (show (lim cfg).loop 71 lp71_3 ⟨40,[(4,.sl true [] 0 none),(22,.sl true [] 0 none),(23,I 0),(24,I 0)],[],0,0⟩=some ((.exit 0),⟨40,[(25,B false),(4,.sl true [] 0 none),(22,.sl true [] 0 none),(23,I 0),(24,I 0)],[],0,0⟩) from (zy [.dec false] (Ai (Eq.refl false) trivial) (by kernel_rfl))) (Ai (show (lim cfg).inl 72 [I (zl (w64 (0 - x.hi)) 0),I (w64 (0 - x.lo)),.agg [I k.lo,I k.hi]] [] 2=some (.sl true [] 0 none,[(2,⟨[.agg [I k.lo,I k.hi]],2,false⟩)],3) from zH [.loop (.exit 0) (sd40031 2 3 x k)] (Ai (zF (q:=lr_ranges_products_3p4 k (w64 (0 - x.lo)) (zl (w64 (0 - x.hi)) 0)) (lp_ranges_products_3p4 k (w64 (0 - x.lo)) (zl (w64 (0 - x.hi)) 0) 2051 (yu _ _ _)) h78) trivial) (by kernel_rfl)) (Ai p29 trivial))) (by kernel_rfl)
  | out =>
   exact absurd h78 ((yu _ _ _))
 | out =>
  exact absurd h13 ((ranges_products_3_ne _ _ _))
end Go.VS

