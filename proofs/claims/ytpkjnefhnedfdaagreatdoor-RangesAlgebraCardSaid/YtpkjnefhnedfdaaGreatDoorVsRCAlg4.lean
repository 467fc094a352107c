/- Nothing of a statement is proved in this text alone: it is part 4 of the proof's own tools, an evaluator of the code over deep values, its soundness, and what it makes of this seat's functions. Conditions: none beyond the statement's own. -/
import Derived.Test.YtpkjnefhnedfdaaGreatDoorVsRCAlg3
set_option linter.unusedSimpArgs false
set_option linter.unusedVariables false
namespace Go.VS
open Go Go.Proofs
set_option maxHeartbeats 0
set_option linter.unusedSimpArgs false
set_option linter.unusedVariables false
noncomputable def lp87_6:Code:=subC [1,0,1,1,0,1,0,0,1,1,0,0,1,1,0,0] (bodyC Tryz.f87)

noncomputable def lp87_3:Code:=subC [1,0,1,1,0,1,0,0] (bodyC Tryz.f87)

def sd63 (va3_0:List Sn) (i4p1:Nat) (q4p1_0:List Sn) (x4p1:Sn) (va4p1_0:List Sn):St:=⟨65,[(12,I ((i4p1+1:Nat):Int)),(60,I ((i4p1+1:Nat):Int)),(55,.lref 2 ((w64 (((va4p1_0.length:Nat):Int) - 1)).toNat) 2 1),(54,.lref 2 ((w64 (((va4p1_0.length:Nat):Int) - 1)).toNat) 2 0),(53,I (imax ((va4p1_0.getD ((w64 (((va4p1_0.length:Nat):Int) - 1)).toNat) default).hi) x4p1.hi)),(52,I x4p1.hi),(51,.lref 3 0 2 1),(50,I ((va4p1_0.getD ((w64 (((va4p1_0.length:Nat):Int) - 1)).toNat) default).hi)),(49,.lref 2 ((w64 (((va4p1_0.length:Nat):Int) - 1)).toNat) 2 1),(48,.lref 2 ((w64 (((va4p1_0.length:Nat):Int) - 1)).toNat) 2 0),(47,I (w64 (((va4p1_0.length:Nat):Int) - 1))),(46,I ((va4p1_0.length:Nat):Int)),(45,.lsl 2 0 va4p1_0.length 2 none),(44,I (w64 (((va4p1_0.length:Nat):Int) - 1))),(43,I ((va4p1_0.length:Nat):Int)),(42,.lsl 2 0 va4p1_0.length 2 none),(41,B true),(40,B true),(39,I (w64 (((va4p1_0.getD ((w64 (((va4p1_0.length:Nat):Int) - 1)).toNat) default).hi)+1))),(38,I ((va4p1_0.getD ((w64 (((va4p1_0.length:Nat):Int) - 1)).toNat) default).hi)),(37,.lref 2 ((w64 (((va4p1_0.length:Nat):Int) - 1)).toNat) 2 1),(36,.lref 2 ((w64 (((va4p1_0.length:Nat):Int) - 1)).toNat) 2 0),(35,I (w64 (((va4p1_0.length:Nat):Int) - 1))),(34,I ((va4p1_0.length:Nat):Int)),(33,.lsl 2 0 va4p1_0.length 2 none),(32,I x4p1.lo),(31,.lref 3 0 2 0),(30,B true),(29,B true),(28,I ((va4p1_0.length:Nat):Int)),(7,I ((va4p1_0.length:Nat):Int)),(27,I ((va4p1_0.length:Nat):Int)),(26,.lsl 2 0 va4p1_0.length 2 none),(25,B false),(24,B false),(23,B true),(22,I x4p1.hi),(21,.lref 3 0 2 1),(20,B false),(19,B false),(18,B true),(17,I x4p1.lo),(16,.lref 3 0 2 0),(6,.lref 3 0 2 0),(15,.agg [I x4p1.lo,I x4p1.hi]),(14,.lref 1 i4p1 2 0),(13,B true),(4,.lsl 2 0 va4p1_0.length 2 none),(10,.lsl 1 0 va3_0.length 2 none),(11,I ((va3_0.length:Nat):Int)),(12,I ((i4p1:Nat):Int))],[(1,⟨q4p1_0.map Sn.D,2,false⟩),(2,⟨(va4p1_0.set ((w64 (((va4p1_0.length:Nat):Int) - 1)).toNat) (⟨(va4p1_0.getD ((w64 (((va4p1_0.length:Nat):Int) - 1)).toNat) default).lo,imax ((va4p1_0.getD ((w64 (((va4p1_0.length:Nat):Int) - 1)).toNat) default).hi) x4p1.hi⟩:Sn)).map Sn.D,2,false⟩),(3,⟨[.agg [I x4p1.lo,I x4p1.hi]],2,false⟩)],4,2⟩

def sd64 (va3_0:List Sn) (i4p1:Nat) (q4p1_0:List Sn) (x4p1:Sn) (va4p1_0:List Sn):St:=⟨65,[(12,I ((i4p1+1:Nat):Int)),(60,I ((i4p1+1:Nat):Int)),(4,.lsl 5 0 ((va4p1_0++[x4p1]).length) 2 none),(59,.lsl 5 0 ((va4p1_0++[x4p1]).length) 2 none),(58,.lsl 4 0 1 2 (some 1)),(57,.agg [I x4p1.lo,I x4p1.hi]),(56,.lsl 2 0 va4p1_0.length 2 none),(41,B false),(40,B false),(39,I (w64 (((va4p1_0.getD ((w64 (((va4p1_0.length:Nat):Int) - 1)).toNat) default).hi)+1))),(38,I ((va4p1_0.getD ((w64 (((va4p1_0.length:Nat):Int) - 1)).toNat) default).hi)),(37,.lref 2 ((w64 (((va4p1_0.length:Nat):Int) - 1)).toNat) 2 1),(36,.lref 2 ((w64 (((va4p1_0.length:Nat):Int) - 1)).toNat) 2 0),(35,I (w64 (((va4p1_0.length:Nat):Int) - 1))),(34,I ((va4p1_0.length:Nat):Int)),(33,.lsl 2 0 va4p1_0.length 2 none),(32,I x4p1.lo),(31,.lref 3 0 2 0),(30,B true),(29,B true),(28,I ((va4p1_0.length:Nat):Int)),(7,I ((va4p1_0.length:Nat):Int)),(27,I ((va4p1_0.length:Nat):Int)),(26,.lsl 2 0 va4p1_0.length 2 none),(25,B false),(24,B false),(23,B true),(22,I x4p1.hi),(21,.lref 3 0 2 1),(20,B false),(19,B false),(18,B true),(17,I x4p1.lo),(16,.lref 3 0 2 0),(6,.lref 3 0 2 0),(15,.agg [I x4p1.lo,I x4p1.hi]),(14,.lref 1 i4p1 2 0),(13,B true),(4,.lsl 2 0 va4p1_0.length 2 none),(10,.lsl 1 0 va3_0.length 2 none),(11,I ((va3_0.length:Nat):Int)),(12,I ((i4p1:Nat):Int))],[(1,⟨q4p1_0.map Sn.D,2,false⟩),(3,⟨[.agg [I x4p1.lo,I x4p1.hi]],2,false⟩),(4,⟨[.agg [I x4p1.lo,I x4p1.hi]],2,false⟩),(5,⟨(va4p1_0++[x4p1]).map Sn.D,2,false⟩)],6,2⟩

def sd65 (va3_0:List Sn) (i4p1:Nat) (q4p1_0:List Sn) (x4p1:Sn) (va4p1_0:List Sn):St:=⟨65,[(12,I ((i4p1+1:Nat):Int)),(60,I ((i4p1+1:Nat):Int)),(4,.lsl 5 0 ((va4p1_0++[x4p1]).length) 2 none),(59,.lsl 5 0 ((va4p1_0++[x4p1]).length) 2 none),(58,.lsl 4 0 1 2 (some 1)),(57,.agg [I x4p1.lo,I x4p1.hi]),(56,.lsl 2 0 va4p1_0.length 2 none),(41,B false),(40,.tup []),(39,.tup []),(38,.tup []),(37,.tup []),(36,.tup []),(35,.tup []),(34,.tup []),(33,.tup []),(32,.tup []),(31,.tup []),(30,B false),(29,B false),(28,I ((va4p1_0.length:Nat):Int)),(7,I ((va4p1_0.length:Nat):Int)),(27,I ((va4p1_0.length:Nat):Int)),(26,.lsl 2 0 va4p1_0.length 2 none),(25,B false),(24,B false),(23,B true),(22,I x4p1.hi),(21,.lref 3 0 2 1),(20,B false),(19,B false),(18,B true),(17,I x4p1.lo),(16,.lref 3 0 2 0),(6,.lref 3 0 2 0),(15,.agg [I x4p1.lo,I x4p1.hi]),(14,.lref 1 i4p1 2 0),(13,B true),(4,.lsl 2 0 va4p1_0.length 2 none),(10,.lsl 1 0 va3_0.length 2 none),(11,I ((va3_0.length:Nat):Int)),(12,I ((i4p1:Nat):Int))],[(1,⟨q4p1_0.map Sn.D,2,false⟩),(3,⟨[.agg [I x4p1.lo,I x4p1.hi]],2,false⟩),(4,⟨[.agg [I x4p1.lo,I x4p1.hi]],2,false⟩),(5,⟨(va4p1_0++[x4p1]).map Sn.D,2,false⟩)],6,2⟩

def sd66 (va3_0:List Sn) (i4p1:Nat) (q4p1_0:List Sn) (x4p1:Sn):St:=⟨65,[(12,I ((i4p1+1:Nat):Int)),(60,I ((i4p1+1:Nat):Int)),(4,.lsl 4 0 1 2 none),(59,.lsl 4 0 1 2 none),(58,.lsl 3 0 1 2 (some 1)),(57,.agg [I x4p1.lo,I x4p1.hi]),(56,.sl true [] 0 none),(41,B false),(40,.tup []),(39,.tup []),(38,.tup []),(37,.tup []),(36,.tup []),(35,.tup []),(34,.tup []),(33,.tup []),(32,.tup []),(31,.tup []),(30,B false),(29,B false),(28,I 0),(7,I 0),(27,I 0),(26,.sl true [] 0 none),(25,B false),(24,B false),(23,B true),(22,I x4p1.hi),(21,.lref 2 0 2 1),(20,B false),(19,B false),(18,B true),(17,I x4p1.lo),(16,.lref 2 0 2 0),(6,.lref 2 0 2 0),(15,.agg [I x4p1.lo,I x4p1.hi]),(14,.lref 1 i4p1 2 0),(13,B true),(4,.sl true [] 0 none),(10,.lsl 1 0 va3_0.length 2 none),(11,I ((va3_0.length:Nat):Int)),(12,I ((i4p1:Nat):Int))],[(1,⟨q4p1_0.map Sn.D,2,false⟩),(2,⟨[.agg [I x4p1.lo,I x4p1.hi]],2,false⟩),(3,⟨[.agg [I x4p1.lo,I x4p1.hi]],2,false⟩),(4,⟨[.agg [I x4p1.lo,I x4p1.hi]],2,false⟩)],5,2⟩

inductive LR_ranges_gathered_4p1 where
 | x0 (va4p1_0:List Sn)
 | x1 (i4p1:Nat) (x4p1:Sn) (va4p1_0:List Sn)
 | x2 (i4p1:Nat) (x4p1:Sn) (va4p1_0:List Sn)
 | x3
 | x4 (i4p1:Nat) (x4p1:Sn)
 | x5 (i4p1:Nat) (x4p1:Sn)
instance:Inhabited LR_ranges_gathered_4p1:=⟨.x0 default⟩
def yd:List Sn→Nat→(List Sn)→LR_ranges_gathered_4p1
 | [],i4p1,va4p1_0=>.x0 va4p1_0
 | x4p1::rest4p1,i4p1,va4p1_0 =>
  bif (zn x4p1.lo) then
   bif (zn x4p1.hi) then
    bif decide (((va4p1_0.length:Nat):Int) > 0) then
     bif decide (x4p1.lo≤(w64 (((va4p1_0.getD ((w64 (((va4p1_0.length:Nat):Int) - 1)).toNat) default).hi)+1))) then
      yd rest4p1 (i4p1+1) (va4p1_0.set ((w64 (((va4p1_0.length:Nat):Int) - 1)).toNat) (⟨(va4p1_0.getD ((w64 (((va4p1_0.length:Nat):Int) - 1)).toNat) default).lo,imax ((va4p1_0.getD ((w64 (((va4p1_0.length:Nat):Int) - 1)).toNat) default).hi) x4p1.hi⟩:Sn))
     else
      yd rest4p1 (i4p1+1) (va4p1_0++[x4p1])
    else
     yd rest4p1 (i4p1+1) (va4p1_0++[x4p1])
   else
    .x1 i4p1 x4p1 va4p1_0
  else
   .x2 i4p1 x4p1 va4p1_0
def zN:List Sn→Nat→LR_ranges_gathered_4p1
 | [],i4p1=>.x3
 | x4p1::rest4p1,i4p1 =>
  bif (zn x4p1.lo) then
   bif (zn x4p1.hi) then
    yd rest4p1 (i4p1+1) [x4p1]
   else
    .x4 i4p1 x4p1
  else
   .x5 i4p1 x4p1
def zW (va3_0:List Sn) (q4p1_0:List Sn):LR_ranges_gathered_4p1→Exit × St
 | .x0 va4p1_0=>((.exit 0),⟨65,[(13,B false),(4,.lsl 2 0 va4p1_0.length 2 none),(10,.lsl 1 0 va3_0.length 2 none),(11,I ((va3_0.length:Nat):Int)),(12,I ((q4p1_0.length:Nat):Int))],[(1,⟨q4p1_0.map Sn.D,2,false⟩),(2,⟨va4p1_0.map Sn.D,2,false⟩)],3,2⟩)
 | .x1 i4p1 x4p1 va4p1_0=>(.ret,⟨65,[(3,I 2),(2,.sl true [] 0 none),(25,B true),(24,B true),(23,B false),(22,I x4p1.hi),(21,.lref 3 0 2 1),(20,B false),(19,B false),(18,B true),(17,I x4p1.lo),(16,.lref 3 0 2 0),(6,.lref 3 0 2 0),(15,.agg [I x4p1.lo,I x4p1.hi]),(14,.lref 1 i4p1 2 0),(13,B true),(4,.lsl 2 0 va4p1_0.length 2 none),(10,.lsl 1 0 va3_0.length 2 none),(11,I ((va3_0.length:Nat):Int)),(12,I ((i4p1:Nat):Int))],[(1,⟨q4p1_0.map Sn.D,2,false⟩),(2,⟨va4p1_0.map Sn.D,2,false⟩),(3,⟨[.agg [I x4p1.lo,I x4p1.hi]],2,false⟩)],4,2⟩)
 | .x2 i4p1 x4p1 va4p1_0=>(.ret,⟨65,[(3,I 2),(2,.sl true [] 0 none),(25,B true),(24,.tup []),(23,.tup []),(22,.tup []),(21,.tup []),(20,B true),(19,B true),(18,B false),(17,I x4p1.lo),(16,.lref 3 0 2 0),(6,.lref 3 0 2 0),(15,.agg [I x4p1.lo,I x4p1.hi]),(14,.lref 1 i4p1 2 0),(13,B true),(4,.lsl 2 0 va4p1_0.length 2 none),(10,.lsl 1 0 va3_0.length 2 none),(11,I ((va3_0.length:Nat):Int)),(12,I ((i4p1:Nat):Int))],[(1,⟨q4p1_0.map Sn.D,2,false⟩),(2,⟨va4p1_0.map Sn.D,2,false⟩),(3,⟨[.agg [I x4p1.lo,I x4p1.hi]],2,false⟩)],4,2⟩)
 | .x3=>((.exit 0),⟨65,[(13,B false),(4,.sl true [] 0 none),(10,.lsl 1 0 va3_0.length 2 none),(11,I ((va3_0.length:Nat):Int)),(12,I ((q4p1_0.length:Nat):Int))],[(1,⟨q4p1_0.map Sn.D,2,false⟩)],2,2⟩)
 | .x4 i4p1 x4p1=>(.ret,⟨65,[(3,I 2),(2,.sl true [] 0 none),(25,B true),(24,B true),(23,B false),(22,I x4p1.hi),(21,.lref 2 0 2 1),(20,B false),(19,B false),(18,B true),(17,I x4p1.lo),(16,.lref 2 0 2 0),(6,.lref 2 0 2 0),(15,.agg [I x4p1.lo,I x4p1.hi]),(14,.lref 1 i4p1 2 0),(13,B true),(4,.sl true [] 0 none),(10,.lsl 1 0 va3_0.length 2 none),(11,I ((va3_0.length:Nat):Int)),(12,I ((i4p1:Nat):Int))],[(1,⟨q4p1_0.map Sn.D,2,false⟩),(2,⟨[.agg [I x4p1.lo,I x4p1.hi]],2,false⟩)],3,2⟩)
 | .x5 i4p1 x4p1=>(.ret,⟨65,[(3,I 2),(2,.sl true [] 0 none),(25,B true),(24,.tup []),(23,.tup []),(22,.tup []),(21,.tup []),(20,B true),(19,B true),(18,B false),(17,I x4p1.lo),(16,.lref 2 0 2 0),(6,.lref 2 0 2 0),(15,.agg [I x4p1.lo,I x4p1.hi]),(14,.lref 1 i4p1 2 0),(13,B true),(4,.sl true [] 0 none),(10,.lsl 1 0 va3_0.length 2 none),(11,I ((va3_0.length:Nat):Int)),(12,I ((i4p1:Nat):Int))],[(1,⟨q4p1_0.map Sn.D,2,false⟩),(2,⟨[.agg [I x4p1.lo,I x4p1.hi]],2,false⟩)],3,2⟩)
def y9 (va3_0:List Sn) (q4p1_0:List Sn):LR_ranges_gathered_4p1→Prop
 | .x0 va4p1_0=>(1≤va4p1_0.length)∧(va4p1_0.length≤q4p1_0.length)
 | .x1 i4p1 x4p1 va4p1_0=>(1≤va4p1_0.length)∧(va4p1_0.length≤i4p1)
 | .x2 i4p1 x4p1 va4p1_0=>(1≤va4p1_0.length)∧(va4p1_0.length≤i4p1)
 | .x3=>True
 | .x4 i4p1 x4p1=>True
 | .x5 i4p1 x4p1=>True
def ranges_gathered_4p1a_l_o1 (i4p1:Nat) (x4p1:Sn):List Ora:=[.dec true,.op (some 14) ⟨.lref 1 i4p1 2 0,[],[],3⟩,.op (some 15) ⟨.agg [I x4p1.lo,I x4p1.hi],[],[1],3⟩,.pure (B (zn x4p1.lo))]
def ranges_gathered_4p1a_l_o2 (x4p1:Sn) (va4p1_0:List Sn):List Ora:=[.dec true,.pure (B (zn x4p1.hi)),.dec true,.dec true,.op (some 36) ⟨.lref 2 ((w64 (((va4p1_0.length:Nat):Int) - 1)).toNat) 2 0,[],[],4⟩,.op (some 38) ⟨I ((va4p1_0.getD ((w64 (((va4p1_0.length:Nat):Int) - 1)).toNat) default).hi),[],[2],4⟩]
theorem lp_ranges_gathered_4p1a (va3_0:List Sn) (q4p1_0:List Sn):∀ (rest4p1:List Sn) (i4p1:Nat) (va4p1_0:List Sn) (hd4p1:q4p1_0.drop i4p1=rest4p1) (hi4p1:i4p1≤q4p1_0.length) (hz4p1_va4p1_0:1≤va4p1_0.length) (hq4p1:q4p1_0.length=va3_0.length) (hg4p1_va4p1_0:va4p1_0.length≤i4p1) (hL4p1:q4p1_0.length≤1099511627776),(lim cfg).loop 69 lp69_4 ⟨65,[(4,.lsl 2 0 va4p1_0.length 2 none),(10,.lsl 1 0 va3_0.length 2 none),(11,I ((va3_0.length:Nat):Int)),(12,I ((i4p1:Nat):Int))],[(1,⟨q4p1_0.map Sn.D,2,false⟩),(2,⟨va4p1_0.map Sn.D,2,false⟩)],3,2⟩=some (zW va3_0 q4p1_0 (yd rest4p1 i4p1 va4p1_0)):=by
 intro rest4p1
 induction rest4p1 with
 | nil =>
  intro i4p1 va4p1_0 hd4p1 hi4p1 hz4p1_va4p1_0 hq4p1 hg4p1_va4p1_0 hL4p1
  unfold yd
  obtain rfl:i4p1=q4p1_0.length:=yC hd4p1 hi4p1
  exact zP [.dec false] (Ai (lt_no' hd4p1 hq4p1) trivial) (by kernel_rfl)
 | cons x4p1 rest4p1 ih =>
  intro i4p1 va4p1_0 hd4p1 hi4p1 hz4p1_va4p1_0 hq4p1 hg4p1_va4p1_0 hL4p1
  have hlt4p1:=zl hd4p1
  unfold yd
  have p1:=(idx_row (C:=cfg) (nxt:=3) (t:=22) (ty:=ty22) (te:=yw) (e:=25) (o:=1) (len:=va3_0.length) (sz:=2) (cap:=none) (i:=((i4p1:Nat):Int)) (by kernel_rfl) rfl (by kernel_rfl) rfl (by omega) (by omega))
  have p2:=(load_row (C:=cfg) (objs:=[(1,⟨q4p1_0.map Sn.D,2,false⟩),(2,⟨va4p1_0.map Sn.D,2,false⟩)]) (nxt:=3) (t:=25) (ty:=yw) (o:=1) (n:=i4p1) (sz:=2) (sub:=0) (ob:=⟨q4p1_0.map Sn.D,2,false⟩) (e:=Sn.D x4p1) (d:=.agg [I x4p1.lo,I x4p1.hi]) (by kernel_rfl) (by kernel_rfl) rfl (row_at (f:=Sn.D) hd4p1) (by kernel_rfl))
  cases h25:(zn x4p1.lo) with
  | true =>
   cases h26:(zn x4p1.hi) with
   | true =>
    cases h27:decide (((va4p1_0.length:Nat):Int) > 0) with
    | true =>
     have g27:=of_decide_eq_true h27
     have p3:=(idx_row (C:=cfg) (nxt:=4) (t:=23) (ty:=ty23) (te:=yw) (e:=25) (o:=2) (len:=va4p1_0.length) (sz:=2) (cap:=none) (i:=w64 (((va4p1_0.length:Nat):Int) - 1)) (by kernel_rfl) rfl (by kernel_rfl) rfl (by simp only [List.length_append,List.length_cons,List.length_nil,zo] at * <;> omega) (by simp only [List.length_append,List.length_cons,List.length_nil,zo] at * <;> omega))
     have p4:=(load_row (C:=cfg) (objs:=[(1,⟨q4p1_0.map Sn.D,2,false⟩),(2,⟨va4p1_0.map Sn.D,2,false⟩),(3,⟨[.agg [I x4p1.lo,I x4p1.hi]],2,false⟩)]) (nxt:=4) (t:=3) (ty:=ty3) (o:=2) (n:=(w64 (((va4p1_0.length:Nat):Int) - 1)).toNat) (sz:=2) (sub:=1) (ob:=⟨va4p1_0.map Sn.D,2,false⟩) (e:=Sn.D (va4p1_0.getD ((w64 (((va4p1_0.length:Nat):Int) - 1)).toNat) default)) (d:=I ((va4p1_0.getD ((w64 (((va4p1_0.length:Nat):Int) - 1)).toNat) default).hi)) (by kernel_rfl) (by kernel_rfl) rfl (row_get (f:=Sn.D) (by simp only [List.length_append,List.length_cons,List.length_nil,zo] at * <;> omega)) (by kernel_rfl))
     cases h28:decide (x4p1.lo≤(w64 (((va4p1_0.getD ((w64 (((va4p1_0.length:Nat):Int) - 1)).toNat) default).hi)+1))) with
     | true =>
      have g28:=of_decide_eq_true h28
      exact yg (ks:=[4,10,11,12]) (st':=(sd63 va3_0 i4p1 q4p1_0 x4p1 va4p1_0)) ((ranges_gathered_4p1a_l_o1 i4p1 x4p1)++((ranges_gathered_4p1a_l_o2 x4p1 va4p1_0)++[.dec true,.op (some 48) ⟨.lref 2 ((w64 (((va4p1_0.length:Nat):Int) - 1)).toNat) 2 0,[],[],4⟩,.op (some 50) ⟨I ((va4p1_0.getD ((w64 (((va4p1_0.length:Nat):Int) - 1)).toNat) default).hi),[],[2],4⟩,.op (some 54) ⟨.lref 2 ((w64 (((va4p1_0.length:Nat):Int) - 1)).toNat) 2 0,[],[],4⟩,.stS 2 ⟨.tup [],[(2,some ⟨(va4p1_0.set ((w64 (((va4p1_0.length:Nat):Int) - 1)).toNat) (⟨(va4p1_0.getD ((w64 (((va4p1_0.length:Nat):Int) - 1)).toNat) default).lo,imax ((va4p1_0.getD ((w64 (((va4p1_0.length:Nat):Int) - 1)).toNat) default).hi) x4p1.hi⟩:Sn)).map Sn.D,2,false⟩)],[2],4⟩,.rw 60 (I ((i4p1+1:Nat):Int))])) (Ai (yE (i:=i4p1) (by have:=zl hd4p1; omega)) (Ai (store_row (C:=cfg) (objs:=[(1,⟨q4p1_0.map Sn.D,2,false⟩),(2,⟨va4p1_0.map Sn.D,2,false⟩),(3,⟨[.agg [I x4p1.lo,I x4p1.hi]],2,false⟩)]) (nxt:=4) (t:=3) (ty:=ty3) (o:=2) (n:=(w64 (((va4p1_0.length:Nat):Int) - 1)).toNat) (sz:=2) (sub:=1) (els:=va4p1_0.map Sn.D) (els':=(va4p1_0.set ((w64 (((va4p1_0.length:Nat):Int) - 1)).toNat) (⟨(va4p1_0.getD ((w64 (((va4p1_0.length:Nat):Int) - 1)).toNat) default).lo,imax ((va4p1_0.getD ((w64 (((va4p1_0.length:Nat):Int) - 1)).toNat) default).hi) x4p1.hi⟩:Sn)).map Sn.D) (e:=Sn.D (va4p1_0.getD ((w64 (((va4p1_0.length:Nat):Int) - 1)).toNat) default)) (e':=Sn.D (⟨(va4p1_0.getD ((w64 (((va4p1_0.length:Nat):Int) - 1)).toNat) default).lo,imax ((va4p1_0.getD ((w64 (((va4p1_0.length:Nat):Int) - 1)).toNat) default).hi) x4p1.hi⟩:Sn)) (v:=I (imax ((va4p1_0.getD ((w64 (((va4p1_0.length:Nat):Int) - 1)).toNat) default).hi) x4p1.hi)) (by kernel_rfl) (by kernel_rfl) (row_get (f:=Sn.D) (by simp only [List.length_append,List.length_cons,List.length_nil,zo] at * <;> omega)) rfl (by kernel_rfl) rfl (by kernel_rfl) (row_set (f:=Sn.D))) (Ai (idx_row (C:=cfg) (nxt:=4) (t:=23) (ty:=ty23) (te:=yw) (e:=25) (o:=2) (len:=va4p1_0.length) (sz:=2) (cap:=none) (i:=w64 (((va4p1_0.length:Nat):Int) - 1)) (by kernel_rfl) rfl (by kernel_rfl) rfl (by simp only [List.length_append,List.length_cons,List.length_nil,zo] at * <;> omega) (by simp only [List.length_append,List.length_cons,List.length_nil,zo] at * <;> omega)) (Ai (load_row (C:=cfg) (objs:=[(1,⟨q4p1_0.map Sn.D,2,false⟩),(2,⟨va4p1_0.map Sn.D,2,false⟩),(3,⟨[.agg [I x4p1.lo,I x4p1.hi]],2,false⟩)]) (nxt:=4) (t:=3) (ty:=ty3) (o:=2) (n:=(w64 (((va4p1_0.length:Nat):Int) - 1)).toNat) (sz:=2) (sub:=1) (ob:=⟨va4p1_0.map Sn.D,2,false⟩) (e:=Sn.D (va4p1_0.getD ((w64 (((va4p1_0.length:Nat):Int) - 1)).toNat) default)) (d:=I ((va4p1_0.getD ((w64 (((va4p1_0.length:Nat):Int) - 1)).toNat) default).hi)) (by kernel_rfl) (by kernel_rfl) rfl (row_get (f:=Sn.D) (by simp only [List.length_append,List.length_cons,List.length_nil,zo] at * <;> omega)) (by kernel_rfl)) (Ai (idx_row (C:=cfg) (nxt:=4) (t:=23) (ty:=ty23) (te:=yw) (e:=25) (o:=2) (len:=va4p1_0.length) (sz:=2) (cap:=none) (i:=w64 (((va4p1_0.length:Nat):Int) - 1)) (by kernel_rfl) rfl (by kernel_rfl) rfl (by simp only [List.length_append,List.length_cons,List.length_nil,zo] at * <;> omega) (by simp only [List.length_append,List.length_cons,List.length_nil,zo] at * <;> omega)) (Ai h28 (Ai p4 (Ai p3 (Ai h27 (Ai h26 (Ai (zv x4p1.hi) (Ai h25 (Ai (zv x4p1.lo) (Ai p2 (Ai p1 (Ai (lt_at' hd4p1 hq4p1) trivial)))))))))))))))) (by kernel_rfl) (by (simp only [sd63,go_sem,List.length_set,Nat.reduceAdd,Nat.reduceEqDiff,Nat.reduceLT,Nat.reduceLeDiff,bI2,zf.idsL,zf.renL,zf.snapAll,z7.idsL,z7.renL,z7.snapAll]) <;> rfl) (ih (i4p1+1) (va4p1_0.set ((w64 (((va4p1_0.length:Nat):Int) - 1)).toNat) (⟨(va4p1_0.getD ((w64 (((va4p1_0.length:Nat):Int) - 1)).toNat) default).lo,imax ((va4p1_0.getD ((w64 (((va4p1_0.length:Nat):Int) - 1)).toNat) default).hi) x4p1.hi⟩:Sn)) (zr hd4p1) (zl hd4p1) (by simp only [List.length_set] at * <;> omega) (by omega) (by simp only [List.length_set] at * <;> omega) (by omega)) (by kernel_rfl)
     | false =>
      have g28:=of_decide_eq_false h28
      exact yg (ks:=[4,10,11,12]) (st':=(sd64 va3_0 i4p1 q4p1_0 x4p1 va4p1_0)) ((ranges_gathered_4p1a_l_o1 i4p1 x4p1)++((ranges_gathered_4p1a_l_o2 x4p1 va4p1_0)++[.dec false,.op (some 59) ⟨.lsl 5 0 ((va4p1_0++[x4p1]).length) 2 none,[(2,none),(5,some ⟨(va4p1_0++[x4p1]).map Sn.D,2,false⟩)],[2,4],6⟩,.rw 60 (I ((i4p1+1:Nat):Int))])) (Ai (yE (i:=i4p1) (by have:=zl hd4p1; omega)) (Ai (app_row (f:=Sn.D) (te:=yw) (gO:=zF [(1,⟨q4p1_0.map Sn.D,2,false⟩),(2,⟨va4p1_0.map Sn.D,2,false⟩),(3,⟨[.agg [I x4p1.lo,I x4p1.hi]],2,false⟩),(4,⟨[.agg [I x4p1.lo,I x4p1.hi]],2,false⟩)]) (nxt:=5) (o:=2) (o2:=4) (fz:=false) z7 va4p1_0 x4p1 (by kernel_rfl) (by kernel_rfl) rfl (by kernel_rfl) (by decide) ⟨by simp only [yw,big] <;> (first | assumption | omega | (exact yh (by omega) (by omega)) | (exact zT (by omega)) | (exact zK (by omega)) | (exact zU (by omega)) | (exact zM (by omega)) | (simp only [zo] at * <;> omega) | (simp only [zG,GS.some_l,List.length_set,List.length_append,List.length_cons,List.length_nil] at * <;> first | with_reducible assumption | omega) | (simp only [zG,GS.some_l,List.length_set,List.length_append,List.length_cons,List.length_nil,zo] at * <;> first | with_reducible assumption | omega) | (simp at * <;> omega)),by simp only [big] <;> (first | assumption | omega | (exact yh (by omega) (by omega)) | (exact zT (by omega)) | (exact zK (by omega)) | (exact zU (by omega)) | (exact zM (by omega)) | (simp only [zo] at * <;> omega) | (simp only [zG,GS.some_l,List.length_set,List.length_append,List.length_cons,List.length_nil] at * <;> first | with_reducible assumption | omega) | (simp only [zG,GS.some_l,List.length_set,List.length_append,List.length_cons,List.length_nil,zo] at * <;> first | with_reducible assumption | omega) | (simp at * <;> omega))⟩) (Ai h28 (Ai p4 (Ai p3 (Ai h27 (Ai h26 (Ai (zv x4p1.hi) (Ai h25 (Ai (zv x4p1.lo) (Ai p2 (Ai p1 (Ai (lt_at' hd4p1 hq4p1) trivial))))))))))))) (by kernel_rfl) (by (simp only [sd64,go_sem,List.length_set,Nat.reduceAdd,Nat.reduceEqDiff,Nat.reduceLT,Nat.reduceLeDiff,bI2,zf.idsL,zf.renL,zf.snapAll,z7.idsL,z7.renL,z7.snapAll]) <;> rfl) (ih (i4p1+1) (va4p1_0++[x4p1]) (zr hd4p1) (zl hd4p1) (by simp only [List.length_append,List.length_cons,List.length_nil] at * <;> omega) (by omega) (by simp only [List.length_append,List.length_cons,List.length_nil] at * <;> omega) (by omega)) (by kernel_rfl)
    | false =>
     have g27:=of_decide_eq_false h27
     exact yg (ks:=[4,10,11,12]) (st':=(sd65 va3_0 i4p1 q4p1_0 x4p1 va4p1_0)) ((ranges_gathered_4p1a_l_o1 i4p1 x4p1)++[.dec true,.pure (B (zn x4p1.hi)),.dec true,.dec false,.op (some 59) ⟨.lsl 5 0 ((va4p1_0++[x4p1]).length) 2 none,[(2,none),(5,some ⟨(va4p1_0++[x4p1]).map Sn.D,2,false⟩)],[2,4],6⟩,.rw 60 (I ((i4p1+1:Nat):Int))]) (Ai (yE (i:=i4p1) (by have:=zl hd4p1; omega)) (Ai (app_row (f:=Sn.D) (te:=yw) (gO:=zF [(1,⟨q4p1_0.map Sn.D,2,false⟩),(2,⟨va4p1_0.map Sn.D,2,false⟩),(3,⟨[.agg [I x4p1.lo,I x4p1.hi]],2,false⟩),(4,⟨[.agg [I x4p1.lo,I x4p1.hi]],2,false⟩)]) (nxt:=5) (o:=2) (o2:=4) (fz:=false) z7 va4p1_0 x4p1 (by kernel_rfl) (by kernel_rfl) rfl (by kernel_rfl) (by decide) ⟨by simp only [yw,big] <;> (first | assumption | omega | (exact yh (by omega) (by omega)) | (exact zT (by omega)) | (exact zK (by omega)) | (exact zU (by omega)) | (exact zM (by omega)) | (simp only [zo] at * <;> omega) | (simp only [zG,GS.some_l,List.length_set,List.length_append,List.length_cons,List.length_nil] at * <;> first | with_reducible assumption | omega) | (simp only [zG,GS.some_l,List.length_set,List.length_append,List.length_cons,List.length_nil,zo] at * <;> first | with_reducible assumption | omega) | (simp at * <;> omega)),by simp only [big] <;> (first | assumption | omega | (exact yh (by omega) (by omega)) | (exact zT (by omega)) | (exact zK (by omega)) | (exact zU (by omega)) | (exact zM (by omega)) | (simp only [zo] at * <;> omega) | (simp only [zG,GS.some_l,List.length_set,List.length_append,List.length_cons,List.length_nil] at * <;> first | with_reducible assumption | omega) | (simp only [zG,GS.some_l,List.length_set,List.length_append,List.length_cons,List.length_nil,zo] at * <;> first | with_reducible assumption | omega) | (simp at * <;> omega))⟩) (Ai h27 (Ai h26 (Ai (zv x4p1.hi) (Ai h25 (Ai (zv x4p1.lo) (Ai p2 (Ai p1 (Ai (lt_at' hd4p1 hq4p1) trivial)))))))))) (by kernel_rfl) (by (simp only [sd65,go_sem,List.length_set,Nat.reduceAdd,Nat.reduceEqDiff,Nat.reduceLT,Nat.reduceLeDiff,bI2,zf.idsL,zf.renL,zf.snapAll,z7.idsL,z7.renL,z7.snapAll]) <;> rfl) (ih (i4p1+1) (va4p1_0++[x4p1]) (zr hd4p1) (zl hd4p1) (by omega) (by omega) (by omega) (by omega)) (by kernel_rfl)
   | false =>
    exact zP ((ranges_gathered_4p1a_l_o1 i4p1 x4p1)++[.dec true,.pure (B (zn x4p1.hi)),.dec false]) (Ai h26 (Ai (zv x4p1.hi) (Ai h25 (Ai (zv x4p1.lo) (Ai p2 (Ai p1 (Ai (lt_at' hd4p1 hq4p1) trivial))))))) (by kernel_rfl)
  | false =>
   exact zP ((ranges_gathered_4p1a_l_o1 i4p1 x4p1)++[.dec false]) (Ai h25 (Ai (zv x4p1.lo) (Ai p2 (Ai p1 (Ai (lt_at' hd4p1 hq4p1) trivial))))) (by kernel_rfl)
theorem ivt_ranges_gathered_4p1a (va3_0:List Sn) (q4p1_0:List Sn):∀ (rest4p1:List Sn) (i4p1:Nat) (va4p1_0:List Sn) (hd4p1:q4p1_0.drop i4p1=rest4p1) (hi4p1:i4p1≤q4p1_0.length) (hz4p1_va4p1_0:1≤va4p1_0.length) (hq4p1:q4p1_0.length=va3_0.length) (hg4p1_va4p1_0:va4p1_0.length≤i4p1) (hL4p1:q4p1_0.length≤1099511627776),y9 va3_0 q4p1_0 (yd rest4p1 i4p1 va4p1_0):=by
 intro rest4p1
 induction rest4p1 with
 | nil =>
  intro i4p1 va4p1_0 hd4p1 hi4p1 hz4p1_va4p1_0 hq4p1 hg4p1_va4p1_0 hL4p1
  unfold yd
  obtain rfl:i4p1=q4p1_0.length:=yC hd4p1 hi4p1
  exact ⟨hz4p1_va4p1_0,hg4p1_va4p1_0⟩
 | cons x4p1 rest4p1 ih =>
  intro i4p1 va4p1_0 hd4p1 hi4p1 hz4p1_va4p1_0 hq4p1 hg4p1_va4p1_0 hL4p1
  have hlt4p1:=zl hd4p1
  unfold yd
  cases h25:(zn x4p1.lo) with
  | true =>
   cases h26:(zn x4p1.hi) with
   | true =>
    cases h27:decide (((va4p1_0.length:Nat):Int) > 0) with
    | true =>
     have g27:=of_decide_eq_true h27
     cases h28:decide (x4p1.lo≤(w64 (((va4p1_0.getD ((w64 (((va4p1_0.length:Nat):Int) - 1)).toNat) default).hi)+1))) with
     | true =>
      have g28:=of_decide_eq_true h28
      exact ih (i4p1+1) (va4p1_0.set ((w64 (((va4p1_0.length:Nat):Int) - 1)).toNat) (⟨(va4p1_0.getD ((w64 (((va4p1_0.length:Nat):Int) - 1)).toNat) default).lo,imax ((va4p1_0.getD ((w64 (((va4p1_0.length:Nat):Int) - 1)).toNat) default).hi) x4p1.hi⟩:Sn)) (zr hd4p1) (zl hd4p1) (by simp only [List.length_set] at * <;> omega) (by omega) (by simp only [List.length_set] at * <;> omega) (by omega)
     | false =>
      have g28:=of_decide_eq_false h28
      exact ih (i4p1+1) (va4p1_0++[x4p1]) (zr hd4p1) (zl hd4p1) (by simp only [List.length_append,List.length_cons,List.length_nil] at * <;> omega) (by omega) (by simp only [List.length_append,List.length_cons,List.length_nil] at * <;> omega) (by omega)
    | false =>
     have g27:=of_decide_eq_false h27
     exact ih (i4p1+1) (va4p1_0++[x4p1]) (zr hd4p1) (zl hd4p1) (by omega) (by omega) (by omega) (by omega)
   | false =>
    exact ⟨hz4p1_va4p1_0,hg4p1_va4p1_0⟩
  | false =>
   exact ⟨hz4p1_va4p1_0,hg4p1_va4p1_0⟩
def ranges_gathered_4p1_l_o1 (i4p1:Nat) (x4p1:Sn):List Ora:=[.dec true,.op (some 14) ⟨.lref 1 i4p1 2 0,[],[],2⟩,.op (some 15) ⟨.agg [I x4p1.lo,I x4p1.hi],[],[1],2⟩,.pure (B (zn x4p1.lo))]
theorem lp_ranges_gathered_4p1 (va3_0:List Sn) (q4p1_0:List Sn):∀ (rest4p1:List Sn) (i4p1:Nat) (hd4p1:q4p1_0.drop i4p1=rest4p1) (hi4p1:i4p1≤q4p1_0.length) (hq4p1:q4p1_0.length=va3_0.length) (hL4p1:q4p1_0.length≤1099511627776),(lim cfg).loop 69 lp69_4 ⟨65,[(4,.sl true [] 0 none),(10,.lsl 1 0 va3_0.length 2 none),(11,I ((va3_0.length:Nat):Int)),(12,I ((i4p1:Nat):Int))],[(1,⟨q4p1_0.map Sn.D,2,false⟩)],2,2⟩=some (zW va3_0 q4p1_0 (zN rest4p1 i4p1)):=by
 intro rest4p1
 induction rest4p1 with
 | nil =>
  intro i4p1 hd4p1 hi4p1 hq4p1 hL4p1
  unfold zN
  obtain rfl:i4p1=q4p1_0.length:=yC hd4p1 hi4p1
  exact zP [.dec false] (Ai (lt_no' hd4p1 hq4p1) trivial) (by kernel_rfl)
 | cons x4p1 rest4p1 ih =>
  intro i4p1 hd4p1 hi4p1 hq4p1 hL4p1
  have hlt4p1:=zl hd4p1
  unfold zN
  dsimp only
  have p1:=(idx_row (C:=cfg) (nxt:=2) (t:=22) (ty:=ty22) (te:=yw) (e:=25) (o:=1) (len:=va3_0.length) (sz:=2) (cap:=none) (i:=((i4p1:Nat):Int)) (by kernel_rfl) rfl (by kernel_rfl) rfl (by omega) (by omega))
  have p2:=(load_row (C:=cfg) (objs:=[(1,⟨q4p1_0.map Sn.D,2,false⟩)]) (nxt:=2) (t:=25) (ty:=yw) (o:=1) (n:=i4p1) (sz:=2) (sub:=0) (ob:=⟨q4p1_0.map Sn.D,2,false⟩) (e:=Sn.D x4p1) (d:=.agg [I x4p1.lo,I x4p1.hi]) (by kernel_rfl) (by kernel_rfl) rfl (row_at (f:=Sn.D) hd4p1) (by kernel_rfl))
  cases h29:(zn x4p1.lo) with
  | true =>
   cases h30:(zn x4p1.hi) with
   | true =>
    exact yg (ks:=[4,10,11,12]) (st':=(sd66 va3_0 i4p1 q4p1_0 x4p1)) ((ranges_gathered_4p1_l_o1 i4p1 x4p1)++[.dec true,.pure (B (zn x4p1.hi)),.dec true,.dec false,.rw 60 (I ((i4p1+1:Nat):Int))]) (Ai (yE (i:=i4p1) (by have:=zl hd4p1; omega)) (Ai (Eq.refl false) (Ai h30 (Ai (zv x4p1.hi) (Ai h29 (Ai (zv x4p1.lo) (Ai p2 (Ai p1 (Ai (lt_at' hd4p1 hq4p1) trivial))))))))) (by kernel_rfl) (by (simp only [sd66,go_sem,List.length_set,Nat.reduceAdd,Nat.reduceEqDiff,Nat.reduceLT,Nat.reduceLeDiff,bI2,zf.idsL,zf.renL,zf.snapAll,z7.idsL,z7.renL,z7.snapAll]) <;> rfl) (lp_ranges_gathered_4p1a va3_0 q4p1_0 _ (i4p1+1) [x4p1] (zr hd4p1) (zl hd4p1) (by simp only [List.length_append,List.length_cons,List.length_nil] at * <;> omega) (by omega) (by simp only [List.length_append,List.length_cons,List.length_nil] at * <;> omega) (by omega)) (by kernel_rfl)
   | false =>
    exact zP ((ranges_gathered_4p1_l_o1 i4p1 x4p1)++[.dec true,.pure (B (zn x4p1.hi)),.dec false]) (Ai h30 (Ai (zv x4p1.hi) (Ai h29 (Ai (zv x4p1.lo) (Ai p2 (Ai p1 (Ai (lt_at' hd4p1 hq4p1) trivial))))))) (by kernel_rfl)
  | false =>
   exact zP ((ranges_gathered_4p1_l_o1 i4p1 x4p1)++[.dec false]) (Ai h29 (Ai (zv x4p1.lo) (Ai p2 (Ai p1 (Ai (lt_at' hd4p1 hq4p1) trivial))))) (by kernel_rfl)
theorem ivt_ranges_gathered_4p1 (va3_0:List Sn) (q4p1_0:List Sn):∀ (rest4p1:List Sn) (i4p1:Nat) (hd4p1:q4p1_0.drop i4p1=rest4p1) (hi4p1:i4p1≤q4p1_0.length) (hq4p1:q4p1_0.length=va3_0.length) (hL4p1:q4p1_0.length≤1099511627776),y9 va3_0 q4p1_0 (zN rest4p1 i4p1):=by
 intro rest4p1
 induction rest4p1 with
 | nil =>
  intro i4p1 hd4p1 hi4p1 hq4p1 hL4p1
  unfold zN
  obtain rfl:i4p1=q4p1_0.length:=yC hd4p1 hi4p1
  exact trivial
 | cons x4p1 rest4p1 ih =>
  intro i4p1 hd4p1 hi4p1 hq4p1 hL4p1
  have hlt4p1:=zl hd4p1
  unfold zN
  dsimp only
  cases h29:(zn x4p1.lo) with
  | true =>
   cases h30:(zn x4p1.hi) with
   | true =>
    exact ivt_ranges_gathered_4p1a va3_0 q4p1_0 _ (i4p1+1) [x4p1] (zr hd4p1) (zl hd4p1) (by simp only [List.length_append,List.length_cons,List.length_nil] at * <;> omega) (by omega) (by simp only [List.length_append,List.length_cons,List.length_nil] at * <;> omega) (by omega)
   | false =>
    exact trivial
  | false =>
   exact trivial

end Go.VS

namespace Go.VS
open Go Go.Proofs
set_option maxHeartbeats 0
set_option linter.unusedSimpArgs false
set_option linter.unusedVariables false
def sd115 (a:GS Sn) (b:GS Sn) (i3p2:Nat) (x3p2:Sn) (i6p4:Nat) (x6p4:Sn) (v6p4_0:List Sn):St:=⟨40,[(22,I ((i6p4+1:Nat):Int)),(37,I ((i6p4+1:Nat):Int)),(36,B false),(7,.lsl 1 0 v6p4_0.length 2 none),(35,.lsl 1 0 v6p4_0.length 2 none),(34,.sl (((zb x3p2 x6p4).1).nl) ((((zb x3p2 x6p4).1).l).map Sn.D) (zsl (((zb x3p2 x6p4).1).nl) 2) none),(33,.lsl 1 0 v6p4_0.length 2 none),(13,B false),(12,.sl (((zb x3p2 x6p4).1).nl) ((((zb x3p2 x6p4).1).l).map Sn.D) (zsl (((zb x3p2 x6p4).1).nl) 2) none),(32,B false),(31,.sl (((zb x3p2 x6p4).1).nl) ((((zb x3p2 x6p4).1).l).map Sn.D) (zsl (((zb x3p2 x6p4).1).nl) 2) none),(26,.tup [.sl (((zb x3p2 x6p4).1).nl) ((((zb x3p2 x6p4).1).l).map Sn.D) (zsl (((zb x3p2 x6p4).1).nl) 2) none,B ((zb x3p2 x6p4).2)]),(30,.tup [.sl (((zb x3p2 x6p4).1).nl) ((((zb x3p2 x6p4).1).l).map Sn.D) (zsl (((zb x3p2 x6p4).1).nl) 2) none,B ((zb x3p2 x6p4).2)]),(29,.agg [I x6p4.lo,I x6p4.hi]),(28,.agg [I x3p2.lo,I x3p2.hi]),(27,.fn (.func 93) [] []),(11,.lref 3 0 2 0),(25,.agg [I x6p4.lo,I x6p4.hi]),(24,.ptr (.agg [I x6p4.lo,I x6p4.hi])),(23,B true),(1,.sl b.nl (b.l.map Sn.D) (zsl b.nl 2) none),(2,.fn (.func 93) [] []),(7,.lsl 1 0 v6p4_0.length 2 none),(9,.lref 2 0 2 0),(14,.sl a.nl (a.l.map Sn.D) (zsl a.nl 2) none),(15,I ((a.l.length:Nat):Int)),(16,I ((i3p2:Nat):Int)),(20,.sl b.nl (b.l.map Sn.D) (zsl b.nl 2) none),(21,I ((b.l.length:Nat):Int)),(22,I ((i6p4:Nat):Int))],[(1,⟨v6p4_0.map Sn.D,2,false⟩),(2,⟨[.agg [I x3p2.lo,I x3p2.hi]],2,false⟩),(3,⟨[.agg [I x6p4.lo,I x6p4.hi]],2,false⟩)],4,1⟩

def sd116 (a:GS Sn) (b:GS Sn) (i3p2:Nat) (x3p2:Sn) (i6p4:Nat) (x6p4:Sn) (v6p4_0:List Sn):St:=⟨40,[(22,I ((i6p4+1:Nat):Int)),(37,I ((i6p4+1:Nat):Int)),(36,B false),(7,.lsl 4 0 ((v6p4_0++(((zb x3p2 x6p4).1).l)).length) 2 none),(35,.lsl 4 0 ((v6p4_0++(((zb x3p2 x6p4).1).l)).length) 2 none),(34,.sl (((zb x3p2 x6p4).1).nl) ((((zb x3p2 x6p4).1).l).map Sn.D) (zsl (((zb x3p2 x6p4).1).nl) 2) none),(33,.lsl 1 0 v6p4_0.length 2 none),(13,B false),(12,.sl (((zb x3p2 x6p4).1).nl) ((((zb x3p2 x6p4).1).l).map Sn.D) (zsl (((zb x3p2 x6p4).1).nl) 2) none),(32,B false),(31,.sl (((zb x3p2 x6p4).1).nl) ((((zb x3p2 x6p4).1).l).map Sn.D) (zsl (((zb x3p2 x6p4).1).nl) 2) none),(26,.tup [.sl (((zb x3p2 x6p4).1).nl) ((((zb x3p2 x6p4).1).l).map Sn.D) (zsl (((zb x3p2 x6p4).1).nl) 2) none,B ((zb x3p2 x6p4).2)]),(30,.tup [.sl (((zb x3p2 x6p4).1).nl) ((((zb x3p2 x6p4).1).l).map Sn.D) (zsl (((zb x3p2 x6p4).1).nl) 2) none,B ((zb x3p2 x6p4).2)]),(29,.agg [I x6p4.lo,I x6p4.hi]),(28,.agg [I x3p2.lo,I x3p2.hi]),(27,.fn (.func 93) [] []),(11,.lref 3 0 2 0),(25,.agg [I x6p4.lo,I x6p4.hi]),(24,.ptr (.agg [I x6p4.lo,I x6p4.hi])),(23,B true),(1,.sl b.nl (b.l.map Sn.D) (zsl b.nl 2) none),(2,.fn (.func 93) [] []),(7,.lsl 1 0 v6p4_0.length 2 none),(9,.lref 2 0 2 0),(14,.sl a.nl (a.l.map Sn.D) (zsl a.nl 2) none),(15,I ((a.l.length:Nat):Int)),(16,I ((i3p2:Nat):Int)),(20,.sl b.nl (b.l.map Sn.D) (zsl b.nl 2) none),(21,I ((b.l.length:Nat):Int)),(22,I ((i6p4:Nat):Int))],[(2,⟨[.agg [I x3p2.lo,I x3p2.hi]],2,false⟩),(3,⟨[.agg [I x6p4.lo,I x6p4.hi]],2,false⟩),(4,⟨(v6p4_0++(((zb x3p2 x6p4).1).l)).map Sn.D,2,false⟩)],5,1⟩

inductive LR_ranges_pairs_6p4 where
 | x0 (v6p4_0:List Sn)
instance:Inhabited LR_ranges_pairs_6p4:=⟨.x0 default⟩
def yo (x3p2:Sn):List Sn→(List Sn)→LR_ranges_pairs_6p4
 | [],v6p4_0=>.x0 v6p4_0
 | x6p4::rest6p4,v6p4_0 =>
  bif (((zb x3p2 x6p4).1).l).isEmpty then
   yo x3p2 rest6p4 v6p4_0
  else
   yo x3p2 rest6p4 (v6p4_0++(((zb x3p2 x6p4).1).l))
def lr_ranges_pairs_6p4 (a:GS Sn) (b:GS Sn) (i3p2:Nat) (x3p2:Sn):LR_ranges_pairs_6p4→Exit × St
 | .x0 v6p4_0=>((.exit 2),⟨40,[(23,B false),(1,.sl b.nl (b.l.map Sn.D) (zsl b.nl 2) none),(2,.fn (.func 93) [] []),(7,.lsl 1 0 v6p4_0.length 2 none),(9,.lref 2 0 2 0),(14,.sl a.nl (a.l.map Sn.D) (zsl a.nl 2) none),(15,I ((a.l.length:Nat):Int)),(16,I ((i3p2:Nat):Int)),(20,.sl b.nl (b.l.map Sn.D) (zsl b.nl 2) none),(21,I ((b.l.length:Nat):Int)),(22,I ((b.l.length:Nat):Int))],[(1,⟨v6p4_0.map Sn.D,2,false⟩),(2,⟨[.agg [I x3p2.lo,I x3p2.hi]],2,false⟩)],3,1⟩)
def iv_ranges_pairs_6p4 (a:GS Sn) (b:GS Sn) (i3p2:Nat) (x3p2:Sn):LR_ranges_pairs_6p4→Prop
 | .x0 v6p4_0=>(v6p4_0.length≤65 * i3p2+b.l.length)
theorem lp_ranges_pairs_6p4 (a:GS Sn) (b:GS Sn) (i3p2:Nat) (x3p2:Sn):∀ (rest6p4:List Sn) (i6p4:Nat) (v6p4_0:List Sn) (hd6p4:b.l.drop i6p4=rest6p4) (hi6p4:i6p4≤b.l.length) (hb65:b.l.length≤65) (ho64:i3p2 < 64) (hg6p4_v6p4_0:v6p4_0.length≤65 * i3p2+i6p4) (hL6p4:b.l.length≤1099511627776),(lim cfg).loop 87 lp87_6 ⟨40,[(1,.sl b.nl (b.l.map Sn.D) (zsl b.nl 2) none),(2,.fn (.func 93) [] []),(7,.lsl 1 0 v6p4_0.length 2 none),(9,.lref 2 0 2 0),(14,.sl a.nl (a.l.map Sn.D) (zsl a.nl 2) none),(15,I ((a.l.length:Nat):Int)),(16,I ((i3p2:Nat):Int)),(20,.sl b.nl (b.l.map Sn.D) (zsl b.nl 2) none),(21,I ((b.l.length:Nat):Int)),(22,I ((i6p4:Nat):Int))],[(1,⟨v6p4_0.map Sn.D,2,false⟩),(2,⟨[.agg [I x3p2.lo,I x3p2.hi]],2,false⟩)],3,1⟩=some (lr_ranges_pairs_6p4 a b i3p2 x3p2 (yo x3p2 rest6p4 v6p4_0)):=by
 intro rest6p4
 induction rest6p4 with
 | nil =>
  intro i6p4 v6p4_0 hd6p4 hi6p4 hb65 ho64 hg6p4_v6p4_0 hL6p4
  unfold yo
  obtain rfl:i6p4=b.l.length:=yC hd6p4 hi6p4
  exact zP [.dec false] (Ai (lt_no hd6p4) trivial) (by kernel_rfl)
 | cons x6p4 rest6p4 ih =>
  intro i6p4 v6p4_0 hd6p4 hi6p4 hb65 ho64 hg6p4_v6p4_0 hL6p4
  have hlt6p4:=zl hd6p4
  have hlx:=common1_len x3p2 x6p4
  unfold yo
  cases h11:(((zb x3p2 x6p4).1).l).isEmpty with
  | true =>
   exact yg (ks:=[1,2,7,9,14,15,16,20,21,22]) (st':=(sd115 a b i3p2 x3p2 i6p4 x6p4 v6p4_0)) [.dec true,.el (.agg [I x6p4.lo,I x6p4.hi]),.pure (.tup [.sl (((zb x3p2 x6p4).1).nl) ((((zb x3p2 x6p4).1).l).map Sn.D) (zsl (((zb x3p2 x6p4).1).nl) 2) none,B ((zb x3p2 x6p4).2)]),.dec false,.op (some 35) ⟨.lsl 1 0 v6p4_0.length 2 none,[],[],4⟩,.rw 37 (I ((i6p4+1:Nat):Int))] (Ai (yE (i:=i6p4) (by have:=zl hd6p4; omega)) (Ai (app_none (te:=yw) (gO:=zF [(1,⟨v6p4_0.map Sn.D,2,false⟩),(2,⟨[.agg [I x3p2.lo,I x3p2.hi]],2,false⟩),(3,⟨[.agg [I x6p4.lo,I x6p4.hi]],2,false⟩)]) (nxt:=4) (f:=Sn.D) (sz:=2) (d:=.lsl 1 0 v6p4_0.length 2 none) ((zb x3p2 x6p4).1) h11 rfl) (Ai (show ((zb x3p2 x6p4).2)=false from rfl) (Ai (T_ranges_Common_1 x3p2 x6p4) (Ai (el_at (s:=b) (f:=Sn.D) (k:=2) hd6p4) (Ai (lt_at hd6p4) trivial)))))) (by kernel_rfl) (by (simp only [sd115,go_sem,List.length_set,Nat.reduceAdd,Nat.reduceEqDiff,Nat.reduceLT,Nat.reduceLeDiff,bI2,zf.idsL,zf.renL,zf.snapAll,z7.idsL,z7.renL,z7.snapAll]) <;> rfl) (ih (i6p4+1) v6p4_0 (zr hd6p4) (zl hd6p4) (by omega) (by omega) (by omega) (by omega)) (by kernel_rfl)
  | false =>
   exact yg (ks:=[1,2,7,9,14,15,16,20,21,22]) (st':=(sd116 a b i3p2 x3p2 i6p4 x6p4 v6p4_0)) [.dec true,.el (.agg [I x6p4.lo,I x6p4.hi]),.pure (.tup [.sl (((zb x3p2 x6p4).1).nl) ((((zb x3p2 x6p4).1).l).map Sn.D) (zsl (((zb x3p2 x6p4).1).nl) 2) none,B ((zb x3p2 x6p4).2)]),.dec false,.op (some 35) ⟨.lsl 4 0 ((v6p4_0++(((zb x3p2 x6p4).1).l)).length) 2 none,[(1,none),(4,some ⟨(v6p4_0++(((zb x3p2 x6p4).1).l)).map Sn.D,2,false⟩)],[1],5⟩,.rw 37 (I ((i6p4+1:Nat):Int))] (Ai (yE (i:=i6p4) (by have:=zl hd6p4; omega)) (Ai (app_moreD (te:=yw) (gO:=zF [(1,⟨v6p4_0.map Sn.D,2,false⟩),(2,⟨[.agg [I x3p2.lo,I x3p2.hi]],2,false⟩),(3,⟨[.agg [I x6p4.lo,I x6p4.hi]],2,false⟩)]) (nxt:=4) (o:=1) (v:=v6p4_0) z7 ((zb x3p2 x6p4).1) h11 (by kernel_rfl) rfl (by kernel_rfl) (by decide) ⟨by simp only [yw,big] <;> (first | assumption | omega | (exact yh (by omega) (by omega)) | (exact zT (by omega)) | (exact zK (by omega)) | (exact zU (by omega)) | (exact zM (by omega)) | (simp only [zo] at * <;> omega) | (simp only [zG,GS.some_l,List.length_set,List.length_append,List.length_cons,List.length_nil] at * <;> first | with_reducible assumption | omega) | (simp only [zG,GS.some_l,List.length_set,List.length_append,List.length_cons,List.length_nil,zo] at * <;> first | with_reducible assumption | omega) | (simp at * <;> omega)),by simp only [big] <;> (first | assumption | omega | (exact yh (by omega) (by omega)) | (exact zT (by omega)) | (exact zK (by omega)) | (exact zU (by omega)) | (exact zM (by omega)) | (simp only [zo] at * <;> omega) | (simp only [zG,GS.some_l,List.length_set,List.length_append,List.length_cons,List.length_nil] at * <;> first | with_reducible assumption | omega) | (simp only [zG,GS.some_l,List.length_set,List.length_append,List.length_cons,List.length_nil,zo] at * <;> first | with_reducible assumption | omega) | (simp at * <;> omega))⟩) (Ai (show ((zb x3p2 x6p4).2)=false from rfl) (Ai (T_ranges_Common_1 x3p2 x6p4) (Ai (el_at (s:=b) (f:=Sn.D) (k:=2) hd6p4) (Ai (lt_at hd6p4) trivial)))))) (by kernel_rfl) (by (simp only [sd116,go_sem,List.length_set,Nat.reduceAdd,Nat.reduceEqDiff,Nat.reduceLT,Nat.reduceLeDiff,bI2,zf.idsL,zf.renL,zf.snapAll,z7.idsL,z7.renL,z7.snapAll]) <;> rfl) (ih (i6p4+1) (v6p4_0++(((zb x3p2 x6p4).1).l)) (zr hd6p4) (zl hd6p4) (by omega) (by omega) (by simp only [List.length_append,List.length_cons,List.length_nil] at * <;> omega) (by omega)) (by kernel_rfl)
theorem ivt_ranges_pairs_6p4 (a:GS Sn) (b:GS Sn) (i3p2:Nat) (x3p2:Sn):∀ (rest6p4:List Sn) (i6p4:Nat) (v6p4_0:List Sn) (hd6p4:b.l.drop i6p4=rest6p4) (hi6p4:i6p4≤b.l.length) (hb65:b.l.length≤65) (ho64:i3p2 < 64) (hg6p4_v6p4_0:v6p4_0.length≤65 * i3p2+i6p4) (hL6p4:b.l.length≤1099511627776),iv_ranges_pairs_6p4 a b i3p2 x3p2 (yo x3p2 rest6p4 v6p4_0):=by
 intro rest6p4
 induction rest6p4 with
 | nil =>
  intro i6p4 v6p4_0 hd6p4 hi6p4 hb65 ho64 hg6p4_v6p4_0 hL6p4
  unfold yo
  obtain rfl:i6p4=b.l.length:=yC hd6p4 hi6p4
  exact hg6p4_v6p4_0
 | cons x6p4 rest6p4 ih =>
  intro i6p4 v6p4_0 hd6p4 hi6p4 hb65 ho64 hg6p4_v6p4_0 hL6p4
  have hlt6p4:=zl hd6p4
  have hlx:=common1_len x3p2 x6p4
  unfold yo
  cases h11:(((zb x3p2 x6p4).1).l).isEmpty with
  | true =>
   exact ih (i6p4+1) v6p4_0 (zr hd6p4) (zl hd6p4) (by omega) (by omega) (by omega) (by omega)
  | false =>
   exact ih (i6p4+1) (v6p4_0++(((zb x3p2 x6p4).1).l)) (zr hd6p4) (zl hd6p4) (by omega) (by omega) (by simp only [List.length_append,List.length_cons,List.length_nil] at * <;> omega) (by omega)

def sd118 (a:GS Sn) (b:GS Sn) (i3p2:Nat) (x3p2:Sn) (i6p5:Nat) (x6p5:Sn) (va6p5_0:List Sn):St:=⟨40,[(22,I ((i6p5+1:Nat):Int)),(37,I ((i6p5+1:Nat):Int)),(36,B false),(7,.lsl 1 0 va6p5_0.length 2 none),(35,.lsl 1 0 va6p5_0.length 2 none),(34,.sl (((zb x3p2 x6p5).1).nl) ((((zb x3p2 x6p5).1).l).map Sn.D) (zsl (((zb x3p2 x6p5).1).nl) 2) none),(33,.lsl 1 0 va6p5_0.length 2 none),(13,B false),(12,.sl (((zb x3p2 x6p5).1).nl) ((((zb x3p2 x6p5).1).l).map Sn.D) (zsl (((zb x3p2 x6p5).1).nl) 2) none),(32,B false),(31,.sl (((zb x3p2 x6p5).1).nl) ((((zb x3p2 x6p5).1).l).map Sn.D) (zsl (((zb x3p2 x6p5).1).nl) 2) none),(26,.tup [.sl (((zb x3p2 x6p5).1).nl) ((((zb x3p2 x6p5).1).l).map Sn.D) (zsl (((zb x3p2 x6p5).1).nl) 2) none,B ((zb x3p2 x6p5).2)]),(30,.tup [.sl (((zb x3p2 x6p5).1).nl) ((((zb x3p2 x6p5).1).l).map Sn.D) (zsl (((zb x3p2 x6p5).1).nl) 2) none,B ((zb x3p2 x6p5).2)]),(29,.agg [I x6p5.lo,I x6p5.hi]),(28,.agg [I x3p2.lo,I x3p2.hi]),(27,.fn (.func 93) [] []),(11,.lref 3 0 2 0),(25,.agg [I x6p5.lo,I x6p5.hi]),(24,.ptr (.agg [I x6p5.lo,I x6p5.hi])),(23,B true),(1,.sl b.nl (b.l.map Sn.D) (zsl b.nl 2) none),(2,.fn (.func 93) [] []),(7,.lsl 1 0 va6p5_0.length 2 none),(9,.lref 2 0 2 0),(14,.sl a.nl (a.l.map Sn.D) (zsl a.nl 2) none),(15,I ((a.l.length:Nat):Int)),(16,I ((i3p2:Nat):Int)),(20,.sl b.nl (b.l.map Sn.D) (zsl b.nl 2) none),(21,I ((b.l.length:Nat):Int)),(22,I ((i6p5:Nat):Int))],[(1,⟨va6p5_0.map Sn.D,2,false⟩),(2,⟨[.agg [I x3p2.lo,I x3p2.hi]],2,false⟩),(3,⟨[.agg [I x6p5.lo,I x6p5.hi]],2,false⟩)],4,1⟩

def sd119 (a:GS Sn) (b:GS Sn) (i3p2:Nat) (x3p2:Sn) (i6p5:Nat) (x6p5:Sn) (va6p5_0:List Sn):St:=⟨40,[(22,I ((i6p5+1:Nat):Int)),(37,I ((i6p5+1:Nat):Int)),(36,B false),(7,.lsl 4 0 ((va6p5_0++(((zb x3p2 x6p5).1).l)).length) 2 none),(35,.lsl 4 0 ((va6p5_0++(((zb x3p2 x6p5).1).l)).length) 2 none),(34,.sl (((zb x3p2 x6p5).1).nl) ((((zb x3p2 x6p5).1).l).map Sn.D) (zsl (((zb x3p2 x6p5).1).nl) 2) none),(33,.lsl 1 0 va6p5_0.length 2 none),(13,B false),(12,.sl (((zb x3p2 x6p5).1).nl) ((((zb x3p2 x6p5).1).l).map Sn.D) (zsl (((zb x3p2 x6p5).1).nl) 2) none),(32,B false),(31,.sl (((zb x3p2 x6p5).1).nl) ((((zb x3p2 x6p5).1).l).map Sn.D) (zsl (((zb x3p2 x6p5).1).nl) 2) none),(26,.tup [.sl (((zb x3p2 x6p5).1).nl) ((((zb x3p2 x6p5).1).l).map Sn.D) (zsl (((zb x3p2 x6p5).1).nl) 2) none,B ((zb x3p2 x6p5).2)]),(30,.tup [.sl (((zb x3p2 x6p5).1).nl) ((((zb x3p2 x6p5).1).l).map Sn.D) (zsl (((zb x3p2 x6p5).1).nl) 2) none,B ((zb x3p2 x6p5).2)]),(29,.agg [I x6p5.lo,I x6p5.hi]),(28,.agg [I x3p2.lo,I x3p2.hi]),(27,.fn (.func 93) [] []),(11,.lref 3 0 2 0),(25,.agg [I x6p5.lo,I x6p5.hi]),(24,.ptr (.agg [I x6p5.lo,I x6p5.hi])),(23,B true),(1,.sl b.nl (b.l.map Sn.D) (zsl b.nl 2) none),(2,.fn (.func 93) [] []),(7,.lsl 1 0 va6p5_0.length 2 none),(9,.lref 2 0 2 0),(14,.sl a.nl (a.l.map Sn.D) (zsl a.nl 2) none),(15,I ((a.l.length:Nat):Int)),(16,I ((i3p2:Nat):Int)),(20,.sl b.nl (b.l.map Sn.D) (zsl b.nl 2) none),(21,I ((b.l.length:Nat):Int)),(22,I ((i6p5:Nat):Int))],[(2,⟨[.agg [I x3p2.lo,I x3p2.hi]],2,false⟩),(3,⟨[.agg [I x6p5.lo,I x6p5.hi]],2,false⟩),(4,⟨(va6p5_0++(((zb x3p2 x6p5).1).l)).map Sn.D,2,false⟩)],5,1⟩

def sd120 (a:GS Sn) (b:GS Sn) (i3p2:Nat) (x3p2:Sn) (i6p5:Nat) (x6p5:Sn):St:=⟨40,[(22,I ((i6p5+1:Nat):Int)),(37,I ((i6p5+1:Nat):Int)),(36,B false),(7,.lsl 3 0 ((((zb x3p2 x6p5).1).l).length) 2 none),(35,.lsl 3 0 ((((zb x3p2 x6p5).1).l).length) 2 none),(34,.sl (((zb x3p2 x6p5).1).nl) ((((zb x3p2 x6p5).1).l).map Sn.D) (zsl (((zb x3p2 x6p5).1).nl) 2) none),(33,.sl true [] 0 none),(13,B false),(12,.sl (((zb x3p2 x6p5).1).nl) ((((zb x3p2 x6p5).1).l).map Sn.D) (zsl (((zb x3p2 x6p5).1).nl) 2) none),(32,B false),(31,.sl (((zb x3p2 x6p5).1).nl) ((((zb x3p2 x6p5).1).l).map Sn.D) (zsl (((zb x3p2 x6p5).1).nl) 2) none),(26,.tup [.sl (((zb x3p2 x6p5).1).nl) ((((zb x3p2 x6p5).1).l).map Sn.D) (zsl (((zb x3p2 x6p5).1).nl) 2) none,B ((zb x3p2 x6p5).2)]),(30,.tup [.sl (((zb x3p2 x6p5).1).nl) ((((zb x3p2 x6p5).1).l).map Sn.D) (zsl (((zb x3p2 x6p5).1).nl) 2) none,B ((zb x3p2 x6p5).2)]),(29,.agg [I x6p5.lo,I x6p5.hi]),(28,.agg [I x3p2.lo,I x3p2.hi]),(27,.fn (.func 93) [] []),(11,.lref 2 0 2 0),(25,.agg [I x6p5.lo,I x6p5.hi]),(24,.ptr (.agg [I x6p5.lo,I x6p5.hi])),(23,B true),(1,.sl b.nl (b.l.map Sn.D) (zsl b.nl 2) none),(2,.fn (.func 93) [] []),(7,.sl true [] 0 none),(9,.lref 1 0 2 0),(14,.sl a.nl (a.l.map Sn.D) (zsl a.nl 2) none),(15,I ((a.l.length:Nat):Int)),(16,I ((i3p2:Nat):Int)),(20,.sl b.nl (b.l.map Sn.D) (zsl b.nl 2) none),(21,I ((b.l.length:Nat):Int)),(22,I ((i6p5:Nat):Int))],[(1,⟨[.agg [I x3p2.lo,I x3p2.hi]],2,false⟩),(2,⟨[.agg [I x6p5.lo,I x6p5.hi]],2,false⟩),(3,⟨(((zb x3p2 x6p5).1).l).map Sn.D,2,false⟩)],4,1⟩

inductive LR_ranges_pairs_6p5 where
 | x0 (va6p5_0:List Sn)
 | x1
instance:Inhabited LR_ranges_pairs_6p5:=⟨.x0 default⟩
def yx (x3p2:Sn):List Sn→(List Sn)→LR_ranges_pairs_6p5
 | [],va6p5_0=>.x0 va6p5_0
 | x6p5::rest6p5,va6p5_0 =>
  bif (((zb x3p2 x6p5).1).l).isEmpty then
   yx x3p2 rest6p5 va6p5_0
  else
   yx x3p2 rest6p5 (va6p5_0++(((zb x3p2 x6p5).1).l))
def ranges_pairs_6p5 (x3p2:Sn):List Sn→LR_ranges_pairs_6p5
 | []=>.x1
 | x6p5::rest6p5 =>
  bif (((zb x3p2 x6p5).1).l).isEmpty then
   ranges_pairs_6p5 x3p2 rest6p5
  else
   yx x3p2 rest6p5 (((zb x3p2 x6p5).1).l)
def lr_ranges_pairs_6p5 (a:GS Sn) (b:GS Sn) (i3p2:Nat) (x3p2:Sn):LR_ranges_pairs_6p5→Exit × St
 | .x0 va6p5_0=>((.exit 2),⟨40,[(23,B false),(1,.sl b.nl (b.l.map Sn.D) (zsl b.nl 2) none),(2,.fn (.func 93) [] []),(7,.lsl 1 0 va6p5_0.length 2 none),(9,.lref 2 0 2 0),(14,.sl a.nl (a.l.map Sn.D) (zsl a.nl 2) none),(15,I ((a.l.length:Nat):Int)),(16,I ((i3p2:Nat):Int)),(20,.sl b.nl (b.l.map Sn.D) (zsl b.nl 2) none),(21,I ((b.l.length:Nat):Int)),(22,I ((b.l.length:Nat):Int))],[(1,⟨va6p5_0.map Sn.D,2,false⟩),(2,⟨[.agg [I x3p2.lo,I x3p2.hi]],2,false⟩)],3,1⟩)
 | .x1=>((.exit 2),⟨40,[(23,B false),(1,.sl b.nl (b.l.map Sn.D) (zsl b.nl 2) none),(2,.fn (.func 93) [] []),(7,.sl true [] 0 none),(9,.lref 1 0 2 0),(14,.sl a.nl (a.l.map Sn.D) (zsl a.nl 2) none),(15,I ((a.l.length:Nat):Int)),(16,I ((i3p2:Nat):Int)),(20,.sl b.nl (b.l.map Sn.D) (zsl b.nl 2) none),(21,I ((b.l.length:Nat):Int)),(22,I ((b.l.length:Nat):Int))],[(1,⟨[.agg [I x3p2.lo,I x3p2.hi]],2,false⟩)],2,1⟩)
def iv_ranges_pairs_6p5 (a:GS Sn) (b:GS Sn) (i3p2:Nat) (x3p2:Sn):LR_ranges_pairs_6p5→Prop
 | .x0 va6p5_0=>(va6p5_0.length≤65 * i3p2+b.l.length)
 | .x1=>True
theorem lp_ranges_pairs_6p5a (a:GS Sn) (b:GS Sn) (i3p2:Nat) (x3p2:Sn):∀ (rest6p5:List Sn) (i6p5:Nat) (va6p5_0:List Sn) (hd6p5:b.l.drop i6p5=rest6p5) (hi6p5:i6p5≤b.l.length) (hb65:b.l.length≤65) (ho64:i3p2 < 64) (hg6p5_va6p5_0:va6p5_0.length≤65 * i3p2+i6p5) (hL6p5:b.l.length≤1099511627776),(lim cfg).loop 87 lp87_6 ⟨40,[(1,.sl b.nl (b.l.map Sn.D) (zsl b.nl 2) none),(2,.fn (.func 93) [] []),(7,.lsl 1 0 va6p5_0.length 2 none),(9,.lref 2 0 2 0),(14,.sl a.nl (a.l.map Sn.D) (zsl a.nl 2) none),(15,I ((a.l.length:Nat):Int)),(16,I ((i3p2:Nat):Int)),(20,.sl b.nl (b.l.map Sn.D) (zsl b.nl 2) none),(21,I ((b.l.length:Nat):Int)),(22,I ((i6p5:Nat):Int))],[(1,⟨va6p5_0.map Sn.D,2,false⟩),(2,⟨[.agg [I x3p2.lo,I x3p2.hi]],2,false⟩)],3,1⟩=some (lr_ranges_pairs_6p5 a b i3p2 x3p2 (yx x3p2 rest6p5 va6p5_0)):=by
 intro rest6p5
 induction rest6p5 with
 | nil =>
  intro i6p5 va6p5_0 hd6p5 hi6p5 hb65 ho64 hg6p5_va6p5_0 hL6p5
  unfold yx
  obtain rfl:i6p5=b.l.length:=yC hd6p5 hi6p5
  exact zP [.dec false] (Ai (lt_no hd6p5) trivial) (by kernel_rfl)
 | cons x6p5 rest6p5 ih =>
  intro i6p5 va6p5_0 hd6p5 hi6p5 hb65 ho64 hg6p5_va6p5_0 hL6p5
  have hlt6p5:=zl hd6p5
  have hlx:=common1_len x3p2 x6p5
  unfold yx
  cases h15:(((zb x3p2 x6p5).1).l).isEmpty with
  | true =>
   exact yg (ks:=[1,2,7,9,14,15,16,20,21,22]) (st':=(sd118 a b i3p2 x3p2 i6p5 x6p5 va6p5_0)) [.dec true,.el (.agg [I x6p5.lo,I x6p5.hi]),.pure (.tup [.sl (((zb x3p2 x6p5).1).nl) ((((zb x3p2 x6p5).1).l).map Sn.D) (zsl (((zb x3p2 x6p5).1).nl) 2) none,B ((zb x3p2 x6p5).2)]),.dec false,.op (some 35) ⟨.lsl 1 0 va6p5_0.length 2 none,[],[],4⟩,.rw 37 (I ((i6p5+1:Nat):Int))] (Ai (yE (i:=i6p5) (by have:=zl hd6p5; omega)) (Ai (app_none (te:=yw) (gO:=zF [(1,⟨va6p5_0.map Sn.D,2,false⟩),(2,⟨[.agg [I x3p2.lo,I x3p2.hi]],2,false⟩),(3,⟨[.agg [I x6p5.lo,I x6p5.hi]],2,false⟩)]) (nxt:=4) (f:=Sn.D) (sz:=2) (d:=.lsl 1 0 va6p5_0.length 2 none) ((zb x3p2 x6p5).1) h15 rfl) (Ai (show ((zb x3p2 x6p5).2)=false from rfl) (Ai (T_ranges_Common_1 x3p2 x6p5) (Ai (el_at (s:=b) (f:=Sn.D) (k:=2) hd6p5) (Ai (lt_at hd6p5) trivial)))))) (by kernel_rfl) (by (simp only [sd118,go_sem,List.length_set,Nat.reduceAdd,Nat.reduceEqDiff,Nat.reduceLT,Nat.reduceLeDiff,bI2,zf.idsL,zf.renL,zf.snapAll,z7.idsL,z7.renL,z7.snapAll]) <;> rfl) (ih (i6p5+1) va6p5_0 (zr hd6p5) (zl hd6p5) (by omega) (by omega) (by omega) (by omega)) (by kernel_rfl)
  | false =>
   exact yg (ks:=[1,2,7,9,14,15,16,20,21,22]) (st':=(sd119 a b i3p2 x3p2 i6p5 x6p5 va6p5_0)) [.dec true,.el (.agg [I x6p5.lo,I x6p5.hi]),.pure (.tup [.sl (((zb x3p2 x6p5).1).nl) ((((zb x3p2 x6p5).1).l).map Sn.D) (zsl (((zb x3p2 x6p5).1).nl) 2) none,B ((zb x3p2 x6p5).2)]),.dec false,.op (some 35) ⟨.lsl 4 0 ((va6p5_0++(((zb x3p2 x6p5).1).l)).length) 2 none,[(1,none),(4,some ⟨(va6p5_0++(((zb x3p2 x6p5).1).l)).map Sn.D,2,false⟩)],[1],5⟩,.rw 37 (I ((i6p5+1:Nat):Int))] (Ai (yE (i:=i6p5) (by have:=zl hd6p5; omega)) (Ai (app_moreD (te:=yw) (gO:=zF [(1,⟨va6p5_0.map Sn.D,2,false⟩),(2,⟨[.agg [I x3p2.lo,I x3p2.hi]],2,false⟩),(3,⟨[.agg [I x6p5.lo,I x6p5.hi]],2,false⟩)]) (nxt:=4) (o:=1) (v:=va6p5_0) z7 ((zb x3p2 x6p5).1) h15 (by kernel_rfl) rfl (by kernel_rfl) (by decide) ⟨by simp only [yw,big] <;> (first | assumption | omega | (exact yh (by omega) (by omega)) | (exact zT (by omega)) | (exact zK (by omega)) | (exact zU (by omega)) | (exact zM (by omega)) | (simp only [zo] at * <;> omega) | (simp only [zG,GS.some_l,List.length_set,List.length_append,List.length_cons,List.length_nil] at * <;> first | with_reducible assumption | omega) | (simp only [zG,GS.some_l,List.length_set,List.length_append,List.length_cons,List.length_nil,zo] at * <;> first | with_reducible assumption | omega) | (simp at * <;> omega)),by simp only [big] <;> (first | assumption | omega | (exact yh (by omega) (by omega)) | (exact zT (by omega)) | (exact zK (by omega)) | (exact zU (by omega)) | (exact zM (by omega)) | (simp only [zo] at * <;> omega) | (simp only [zG,GS.some_l,List.length_set,List.length_append,List.length_cons,List.length_nil] at * <;> first | with_reducible assumption | omega) | (simp only [zG,GS.some_l,List.length_set,List.length_append,List.length_cons,List.length_nil,zo] at * <;> first | with_reducible assumption | omega) | (simp at * <;> omega))⟩) (Ai (show ((zb x3p2 x6p5).2)=false from rfl) (Ai (T_ranges_Common_1 x3p2 x6p5) (Ai (el_at (s:=b) (f:=Sn.D) (k:=2) hd6p5) (Ai (lt_at hd6p5) trivial)))))) (by kernel_rfl) (by (simp only [sd119,go_sem,List.length_set,Nat.reduceAdd,Nat.reduceEqDiff,Nat.reduceLT,Nat.reduceLeDiff,bI2,zf.idsL,zf.renL,zf.snapAll,z7.idsL,z7.renL,z7.snapAll]) <;> rfl) (ih (i6p5+1) (va6p5_0++(((zb x3p2 x6p5).1).l)) (zr hd6p5) (zl hd6p5) (by omega) (by omega) (by simp only [List.length_append,List.length_cons,List.length_nil] at * <;> omega) (by omega)) (by kernel_rfl)
theorem ivt_ranges_pairs_6p5a (a:GS Sn) (b:GS Sn) (i3p2:Nat) (x3p2:Sn):∀ (rest6p5:List Sn) (i6p5:Nat) (va6p5_0:List Sn) (hd6p5:b.l.drop i6p5=rest6p5) (hi6p5:i6p5≤b.l.length) (hb65:b.l.length≤65) (ho64:i3p2 < 64) (hg6p5_va6p5_0:va6p5_0.length≤65 * i3p2+i6p5) (hL6p5:b.l.length≤1099511627776),iv_ranges_pairs_6p5 a b i3p2 x3p2 (yx x3p2 rest6p5 va6p5_0):=by
 intro rest6p5
 induction rest6p5 with
 | nil =>
  intro i6p5 va6p5_0 hd6p5 hi6p5 hb65 ho64 hg6p5_va6p5_0 hL6p5
  unfold yx
  obtain rfl:i6p5=b.l.length:=yC hd6p5 hi6p5
  exact hg6p5_va6p5_0
 | cons x6p5 rest6p5 ih =>
  intro i6p5 va6p5_0 hd6p5 hi6p5 hb65 ho64 hg6p5_va6p5_0 hL6p5
  have hlt6p5:=zl hd6p5
  have hlx:=common1_len x3p2 x6p5
  unfold yx
  cases h15:(((zb x3p2 x6p5).1).l).isEmpty with
  | true =>
   exact ih (i6p5+1) va6p5_0 (zr hd6p5) (zl hd6p5) (by omega) (by omega) (by omega) (by omega)
  | false =>
   exact ih (i6p5+1) (va6p5_0++(((zb x3p2 x6p5).1).l)) (zr hd6p5) (zl hd6p5) (by omega) (by omega) (by simp only [List.length_append,List.length_cons,List.length_nil] at * <;> omega) (by omega)
theorem lp_ranges_pairs_6p5 (a:GS Sn) (b:GS Sn) (i3p2:Nat) (x3p2:Sn):∀ (rest6p5:List Sn) (i6p5:Nat) (hd6p5:b.l.drop i6p5=rest6p5) (hi6p5:i6p5≤b.l.length) (hb65:b.l.length≤65) (ho64:i3p2 < 64) (hL6p5:b.l.length≤1099511627776),(lim cfg).loop 87 lp87_6 ⟨40,[(1,.sl b.nl (b.l.map Sn.D) (zsl b.nl 2) none),(2,.fn (.func 93) [] []),(7,.sl true [] 0 none),(9,.lref 1 0 2 0),(14,.sl a.nl (a.l.map Sn.D) (zsl a.nl 2) none),(15,I ((a.l.length:Nat):Int)),(16,I ((i3p2:Nat):Int)),(20,.sl b.nl (b.l.map Sn.D) (zsl b.nl 2) none),(21,I ((b.l.length:Nat):Int)),(22,I ((i6p5:Nat):Int))],[(1,⟨[.agg [I x3p2.lo,I x3p2.hi]],2,false⟩)],2,1⟩=some (lr_ranges_pairs_6p5 a b i3p2 x3p2 (ranges_pairs_6p5 x3p2 rest6p5)):=by
 intro rest6p5
 induction rest6p5 with
 | nil =>
  intro i6p5 hd6p5 hi6p5 hb65 ho64 hL6p5
  unfold ranges_pairs_6p5
  obtain rfl:i6p5=b.l.length:=yC hd6p5 hi6p5
  exact zP [.dec false] (Ai (lt_no hd6p5) trivial) (by kernel_rfl)
 | cons x6p5 rest6p5 ih =>
  intro i6p5 hd6p5 hi6p5 hb65 ho64 hL6p5
  have hlt6p5:=zl hd6p5
  have hlx:=common1_len x3p2 x6p5
  unfold ranges_pairs_6p5
  cases h16:(((zb x3p2 x6p5).1).l).isEmpty with
  | true =>
   exact po_turn [.dec true,.el (.agg [I x6p5.lo,I x6p5.hi]),.pure (.tup [.sl (((zb x3p2 x6p5).1).nl) ((((zb x3p2 x6p5).1).l).map Sn.D) (zsl (((zb x3p2 x6p5).1).nl) 2) none,B ((zb x3p2 x6p5).2)]),.dec false,.op (some 35) ⟨.sl true [] 0 none,[],[],3⟩,.rw 37 (I ((i6p5+1:Nat):Int))] (Ai (yE (i:=i6p5) (by have:=zl hd6p5; omega)) (Ai (app_none (te:=yw) (gO:=zF [(1,⟨[.agg [I x3p2.lo,I x3p2.hi]],2,false⟩),(2,⟨[.agg [I x6p5.lo,I x6p5.hi]],2,false⟩)]) (nxt:=3) (f:=Sn.D) (sz:=2) (d:=.sl true [] 0 none) ((zb x3p2 x6p5).1) h16 rfl) (Ai (show ((zb x3p2 x6p5).2)=false from rfl) (Ai (T_ranges_Common_1 x3p2 x6p5) (Ai (el_at (s:=b) (f:=Sn.D) (k:=2) hd6p5) (Ai (lt_at hd6p5) trivial)))))) (ih (i6p5+1) (zr hd6p5) (zl hd6p5) (by omega) (by omega) (by omega)) (by kernel_rfl)
  | false =>
   exact yg (ks:=[1,2,7,9,14,15,16,20,21,22]) (st':=(sd120 a b i3p2 x3p2 i6p5 x6p5)) [.dec true,.el (.agg [I x6p5.lo,I x6p5.hi]),.pure (.tup [.sl (((zb x3p2 x6p5).1).nl) ((((zb x3p2 x6p5).1).l).map Sn.D) (zsl (((zb x3p2 x6p5).1).nl) 2) none,B ((zb x3p2 x6p5).2)]),.dec false,.op (some 35) ⟨.lsl 3 0 ((((zb x3p2 x6p5).1).l).length) 2 none,[(3,some ⟨(((zb x3p2 x6p5).1).l).map Sn.D,2,false⟩)],[],4⟩,.rw 37 (I ((i6p5+1:Nat):Int))] (Ai (yE (i:=i6p5) (by have:=zl hd6p5; omega)) (Ai (app_newD (te:=yw) (gO:=zF [(1,⟨[.agg [I x3p2.lo,I x3p2.hi]],2,false⟩),(2,⟨[.agg [I x6p5.lo,I x6p5.hi]],2,false⟩)]) (nxt:=3) (els0:=[]) (sz0:=0) (cap0:=none) z7 ((zb x3p2 x6p5).1) h16 rfl (by kernel_rfl) (by decide) ⟨by simp only [yw,big] <;> (first | assumption | omega | (exact yh (by omega) (by omega)) | (exact zT (by omega)) | (exact zK (by omega)) | (exact zU (by omega)) | (exact zM (by omega)) | (simp only [zo] at * <;> omega) | (simp only [zG,GS.some_l,List.length_set,List.length_append,List.length_cons,List.length_nil] at * <;> first | with_reducible assumption | omega) | (simp only [zG,GS.some_l,List.length_set,List.length_append,List.length_cons,List.length_nil,zo] at * <;> first | with_reducible assumption | omega) | (simp at * <;> omega)),by simp only [big] <;> (first | assumption | omega | (exact yh (by omega) (by omega)) | (exact zT (by omega)) | (exact zK (by omega)) | (exact zU (by omega)) | (exact zM (by omega)) | (simp only [zo] at * <;> omega) | (simp only [zG,GS.some_l,List.length_set,List.length_append,List.length_cons,List.length_nil] at * <;> first | with_reducible assumption | omega) | (simp only [zG,GS.some_l,List.length_set,List.length_append,List.length_cons,List.length_nil,zo] at * <;> first | with_reducible assumption | omega) | (simp at * <;> omega))⟩) (Ai (show ((zb x3p2 x6p5).2)=false from rfl) (Ai (T_ranges_Common_1 x3p2 x6p5) (Ai (el_at (s:=b) (f:=Sn.D) (k:=2) hd6p5) (Ai (lt_at hd6p5) trivial)))))) (by kernel_rfl) (by (simp only [sd120,go_sem,List.length_set,Nat.reduceAdd,Nat.reduceEqDiff,Nat.reduceLT,Nat.reduceLeDiff,bI2,zf.idsL,zf.renL,zf.snapAll,z7.idsL,z7.renL,z7.snapAll]) <;> rfl) (lp_ranges_pairs_6p5a a b i3p2 x3p2 _ (i6p5+1) (((zb x3p2 x6p5).1).l) (zr hd6p5) (zl hd6p5) (by omega) (by omega) (by omega) (by omega)) (by kernel_rfl)
theorem ivt_ranges_pairs_6p5 (a:GS Sn) (b:GS Sn) (i3p2:Nat) (x3p2:Sn):∀ (rest6p5:List Sn) (i6p5:Nat) (hd6p5:b.l.drop i6p5=rest6p5) (hi6p5:i6p5≤b.l.length) (hb65:b.l.length≤65) (ho64:i3p2 < 64) (hL6p5:b.l.length≤1099511627776),iv_ranges_pairs_6p5 a b i3p2 x3p2 (ranges_pairs_6p5 x3p2 rest6p5):=by
 intro rest6p5
 induction rest6p5 with
 | nil =>
  intro i6p5 hd6p5 hi6p5 hb65 ho64 hL6p5
  unfold ranges_pairs_6p5
  obtain rfl:i6p5=b.l.length:=yC hd6p5 hi6p5
  exact trivial
 | cons x6p5 rest6p5 ih =>
  intro i6p5 hd6p5 hi6p5 hb65 ho64 hL6p5
  have hlt6p5:=zl hd6p5
  have hlx:=common1_len x3p2 x6p5
  unfold ranges_pairs_6p5
  cases h16:(((zb x3p2 x6p5).1).l).isEmpty with
  | true =>
   exact ih (i6p5+1) (zr hd6p5) (zl hd6p5) (by omega) (by omega) (by omega)
  | false =>
   exact ivt_ranges_pairs_6p5a a b i3p2 x3p2 _ (i6p5+1) (((zb x3p2 x6p5).1).l) (zr hd6p5) (zl hd6p5) (by omega) (by omega) (by omega) (by omega)

def sd122 (a:GS Sn) (b:GS Sn) (i3p2:Nat) (x3p2:Sn) (v6p4_0:List Sn):St:=⟨40,[(16,I ((i3p2+1:Nat):Int)),(38,I ((i3p2+1:Nat):Int)),(23,B false),(1,.sl b.nl (b.l.map Sn.D) (zsl b.nl 2) none),(2,.fn (.func 93) [] []),(7,.lsl 1 0 v6p4_0.length 2 none),(9,.lref 2 0 2 0),(14,.sl a.nl (a.l.map Sn.D) (zsl a.nl 2) none),(15,I ((a.l.length:Nat):Int)),(16,I ((i3p2:Nat):Int)),(20,.sl b.nl (b.l.map Sn.D) (zsl b.nl 2) none),(21,I ((b.l.length:Nat):Int)),(22,I ((b.l.length:Nat):Int))],[(1,⟨v6p4_0.map Sn.D,2,false⟩),(2,⟨[.agg [I x3p2.lo,I x3p2.hi]],2,false⟩)],3,1⟩

def sd113 (a:GS Sn) (b:GS Sn) (i3p2:Nat) (x3p2:Sn) (va3p2_0:List Sn):St:=⟨40,[(1,.sl b.nl (b.l.map Sn.D) (zsl b.nl 2) none),(2,.fn (.func 93) [] []),(7,.lsl 1 0 va3p2_0.length 2 none),(9,.lref 2 0 2 0),(14,.sl a.nl (a.l.map Sn.D) (zsl a.nl 2) none),(15,I ((a.l.length:Nat):Int)),(16,I ((i3p2:Nat):Int)),(20,.sl b.nl (b.l.map Sn.D) (zsl b.nl 2) none),(21,I ((b.l.length:Nat):Int)),(22,I 0)],[(1,⟨va3p2_0.map Sn.D,2,false⟩),(2,⟨[.agg [I x3p2.lo,I x3p2.hi]],2,false⟩)],3,1⟩

def sd117 (a:GS Sn) (b:GS Sn) (i3p2:Nat) (x3p2:Sn) (v6p4_0:List Sn):St:=⟨40,[(23,B false),(1,.sl b.nl (b.l.map Sn.D) (zsl b.nl 2) none),(2,.fn (.func 93) [] []),(7,.lsl 1 0 v6p4_0.length 2 none),(9,.lref 2 0 2 0),(14,.sl a.nl (a.l.map Sn.D) (zsl a.nl 2) none),(15,I ((a.l.length:Nat):Int)),(16,I ((i3p2:Nat):Int)),(20,.sl b.nl (b.l.map Sn.D) (zsl b.nl 2) none),(21,I ((b.l.length:Nat):Int)),(22,I ((b.l.length:Nat):Int))],[(1,⟨v6p4_0.map Sn.D,2,false⟩),(2,⟨[.agg [I x3p2.lo,I x3p2.hi]],2,false⟩)],3,1⟩

def sd112 (a:GS Sn) (b:GS Sn) (i3p2:Nat) (x3p2:Sn) (va3p2_0:List Sn):St:=⟨40,[(22,I 0),(21,I ((b.l.length:Nat):Int)),(20,.sl b.nl (b.l.map Sn.D) (zsl b.nl 2) none),(9,.lref 2 0 2 0),(19,.agg [I x3p2.lo,I x3p2.hi]),(18,.ptr (.agg [I x3p2.lo,I x3p2.hi])),(17,B true),(1,.sl b.nl (b.l.map Sn.D) (zsl b.nl 2) none),(2,.fn (.func 93) [] []),(7,.lsl 1 0 va3p2_0.length 2 none),(14,.sl a.nl (a.l.map Sn.D) (zsl a.nl 2) none),(15,I ((a.l.length:Nat):Int)),(16,I ((i3p2:Nat):Int))],[(1,⟨va3p2_0.map Sn.D,2,false⟩),(2,⟨[.agg [I x3p2.lo,I x3p2.hi]],2,false⟩)],3,1⟩

def sd123 (a:GS Sn) (b:GS Sn) (i3p2:Nat) (x3p2:Sn) (va6p5_0:List Sn):St:=⟨40,[(16,I ((i3p2+1:Nat):Int)),(38,I ((i3p2+1:Nat):Int)),(23,B false),(1,.sl b.nl (b.l.map Sn.D) (zsl b.nl 2) none),(2,.fn (.func 93) [] []),(7,.lsl 1 0 va6p5_0.length 2 none),(9,.lref 2 0 2 0),(14,.sl a.nl (a.l.map Sn.D) (zsl a.nl 2) none),(15,I ((a.l.length:Nat):Int)),(16,I ((i3p2:Nat):Int)),(20,.sl b.nl (b.l.map Sn.D) (zsl b.nl 2) none),(21,I ((b.l.length:Nat):Int)),(22,I ((b.l.length:Nat):Int))],[(1,⟨va6p5_0.map Sn.D,2,false⟩),(2,⟨[.agg [I x3p2.lo,I x3p2.hi]],2,false⟩)],3,1⟩

def sd121 (a:GS Sn) (b:GS Sn) (i3p2:Nat) (x3p2:Sn) (va6p5_0:List Sn):St:=⟨40,[(23,B false),(1,.sl b.nl (b.l.map Sn.D) (zsl b.nl 2) none),(2,.fn (.func 93) [] []),(7,.lsl 1 0 va6p5_0.length 2 none),(9,.lref 2 0 2 0),(14,.sl a.nl (a.l.map Sn.D) (zsl a.nl 2) none),(15,I ((a.l.length:Nat):Int)),(16,I ((i3p2:Nat):Int)),(20,.sl b.nl (b.l.map Sn.D) (zsl b.nl 2) none),(21,I ((b.l.length:Nat):Int)),(22,I ((b.l.length:Nat):Int))],[(1,⟨va6p5_0.map Sn.D,2,false⟩),(2,⟨[.agg [I x3p2.lo,I x3p2.hi]],2,false⟩)],3,1⟩

def sd109 (a:GS Sn) (b:GS Sn) (i3p2:Nat) (x3p2:Sn):St:=⟨40,[(23,B false),(1,.sl b.nl (b.l.map Sn.D) (zsl b.nl 2) none),(2,.fn (.func 93) [] []),(7,.sl true [] 0 none),(9,.lref 1 0 2 0),(14,.sl a.nl (a.l.map Sn.D) (zsl a.nl 2) none),(15,I ((a.l.length:Nat):Int)),(16,I ((i3p2:Nat):Int)),(20,.sl b.nl (b.l.map Sn.D) (zsl b.nl 2) none),(21,I ((b.l.length:Nat):Int)),(22,I ((b.l.length:Nat):Int))],[(1,⟨[.agg [I x3p2.lo,I x3p2.hi]],2,false⟩)],2,1⟩

inductive LR_ranges_pairs_3p2 where
 | x0 (va3p2_0:List Sn)
 | x1
instance:Inhabited LR_ranges_pairs_3p2:=⟨.x0 default⟩
def ranges_pairs_3p2a (b:GS Sn):List Sn→(List Sn)→LR_ranges_pairs_3p2
 | [],va3p2_0=>.x0 va3p2_0
 | x3p2::rest3p2,va3p2_0 =>
  match yo x3p2 b.l va3p2_0 with
  | .x0 v6p4_0 =>
   ranges_pairs_3p2a b rest3p2 v6p4_0
def ranges_pairs_3p2 (b:GS Sn):List Sn→LR_ranges_pairs_3p2
 | []=>.x1
 | x3p2::rest3p2 =>
  match ranges_pairs_6p5 x3p2 b.l with
  | .x0 va6p5_0 =>
   ranges_pairs_3p2a b rest3p2 va6p5_0
  | .x1 =>
   ranges_pairs_3p2 b rest3p2
def lr_ranges_pairs_3p2 (a:GS Sn) (b:GS Sn):LR_ranges_pairs_3p2→Exit × St
 | .x0 va3p2_0=>((.exit 0),⟨40,[(17,B false),(1,.sl b.nl (b.l.map Sn.D) (zsl b.nl 2) none),(2,.fn (.func 93) [] []),(7,.lsl 1 0 va3p2_0.length 2 none),(14,.sl a.nl (a.l.map Sn.D) (zsl a.nl 2) none),(15,I ((a.l.length:Nat):Int)),(16,I ((a.l.length:Nat):Int))],[(1,⟨va3p2_0.map Sn.D,2,false⟩)],2,1⟩)
 | .x1=>((.exit 0),⟨40,[(17,B false),(1,.sl b.nl (b.l.map Sn.D) (zsl b.nl 2) none),(2,.fn (.func 93) [] []),(7,.sl true [] 0 none),(14,.sl a.nl (a.l.map Sn.D) (zsl a.nl 2) none),(15,I ((a.l.length:Nat):Int)),(16,I ((a.l.length:Nat):Int))],[],1,1⟩)
def iv_ranges_pairs_3p2 (a:GS Sn) (b:GS Sn):LR_ranges_pairs_3p2→Prop
 | .x0 va3p2_0=>(va3p2_0.length≤65 * a.l.length)
 | .x1=>True
theorem lp_ranges_pairs_3p2a (a:GS Sn) (b:GS Sn):∀ (rest3p2:List Sn) (i3p2:Nat) (va3p2_0:List Sn) (hd3p2:a.l.drop i3p2=rest3p2) (hi3p2:i3p2≤a.l.length) (ha64:a.l.length≤64) (hb65:b.l.length≤65) (hg3p2_va3p2_0:va3p2_0.length≤65 * i3p2) (hL3p2:a.l.length≤1099511627776),(lim cfg).loop 87 lp87_3 ⟨40,[(1,.sl b.nl (b.l.map Sn.D) (zsl b.nl 2) none),(2,.fn (.func 93) [] []),(7,.lsl 1 0 va3p2_0.length 2 none),(14,.sl a.nl (a.l.map Sn.D) (zsl a.nl 2) none),(15,I ((a.l.length:Nat):Int)),(16,I ((i3p2:Nat):Int))],[(1,⟨va3p2_0.map Sn.D,2,false⟩)],2,1⟩=some (lr_ranges_pairs_3p2 a b (ranges_pairs_3p2a b rest3p2 va3p2_0)):=by
 intro rest3p2
 induction rest3p2 with
 | nil =>
  intro i3p2 va3p2_0 hd3p2 hi3p2 ha64 hb65 hg3p2_va3p2_0 hL3p2
  unfold ranges_pairs_3p2a
  obtain rfl:i3p2=a.l.length:=yC hd3p2 hi3p2
  exact zP [.dec false] (Ai (lt_no hd3p2) trivial) (by kernel_rfl)
 | cons x3p2 rest3p2 ih =>
  intro i3p2 va3p2_0 hd3p2 hi3p2 ha64 hb65 hg3p2_va3p2_0 hL3p2
  have hlt3p2:=zl hd3p2
  unfold ranges_pairs_3p2a
  cases h12:yo x3p2 b.l va3p2_0 with
  | x0 v6p4_0 =>
   try dsimp only
   have hv_h12:=ivt_ranges_pairs_6p4 a b i3p2 x3p2 b.l 0 va3p2_0 (List.drop_zero) (Nat.zero_le _) (by omega) (by omega) (by omega) (by omega)
   rw [h12] at hv_h12
   have hv_h12_0:=hv_h12
   try dsimp only [iv_ranges_pairs_6p4] at hv_h12_0
   exact yg (ks:=[1,2,7,14,15,16]) (st':=(sd122 a b i3p2 x3p2 v6p4_0)) [.dec true,.el (.agg [I x3p2.lo,I x3p2.hi]),.rw 21 (I ((b.l.length:Nat):Int)),.gloop (sd113 a b i3p2 x3p2 va3p2_0) (.exit 2) (sd117 a b i3p2 x3p2 v6p4_0),.rw 38 (I ((i3p2+1:Nat):Int))] (Ai (yE (i:=i3p2) (by have:=zl hd3p2; omega)) (Ai (yi (q:=lr_ranges_pairs_6p4 a b i3p2 x3p2) (lp_ranges_pairs_6p4 a b i3p2 x3p2 b.l 0 va3p2_0 (List.drop_zero) (Nat.zero_le _) (by omega) (by omega) (by omega) (by omega)) h12) (Ai (gc_of (C:=cfg) (f:=87) (a:=lp87_6) (ks:=[1,2,7,9,14,15,16,20,21,22]) (st:=(sd112 a b i3p2 x3p2 va3p2_0)) (st1:=(sd113 a b i3p2 x3p2 va3p2_0)) (by kernel_rfl) (by (simp only [sd112,sd113,go_sem,List.length_set,Nat.reduceAdd,Nat.reduceEqDiff,Nat.reduceLT,Nat.reduceLeDiff,bI2,zf.idsL,zf.renL,zf.snapAll,z7.idsL,z7.renL,z7.snapAll]) <;> rfl)) (Ai (zQ Sn.D b) (Ai (el_at (s:=a) (f:=Sn.D) (k:=2) hd3p2) (Ai (lt_at hd3p2) trivial)))))) (by kernel_rfl) (by (simp only [sd122,go_sem,List.length_set,Nat.reduceAdd,Nat.reduceEqDiff,Nat.reduceLT,Nat.reduceLeDiff,bI2,zf.idsL,zf.renL,zf.snapAll,z7.idsL,z7.renL,z7.snapAll]) <;> rfl) (ih (i3p2+1) v6p4_0 (zr hd3p2) (zl hd3p2) (by omega) (by omega) (by omega) (by omega)) (by kernel_rfl)
theorem ivt_ranges_pairs_3p2a (a:GS Sn) (b:GS Sn):∀ (rest3p2:List Sn) (i3p2:Nat) (va3p2_0:List Sn) (hd3p2:a.l.drop i3p2=rest3p2) (hi3p2:i3p2≤a.l.length) (ha64:a.l.length≤64) (hb65:b.l.length≤65) (hg3p2_va3p2_0:va3p2_0.length≤65 * i3p2) (hL3p2:a.l.length≤1099511627776),iv_ranges_pairs_3p2 a b (ranges_pairs_3p2a b rest3p2 va3p2_0):=by
 intro rest3p2
 induction rest3p2 with
 | nil =>
  intro i3p2 va3p2_0 hd3p2 hi3p2 ha64 hb65 hg3p2_va3p2_0 hL3p2
  unfold ranges_pairs_3p2a
  obtain rfl:i3p2=a.l.length:=yC hd3p2 hi3p2
  exact hg3p2_va3p2_0
 | cons x3p2 rest3p2 ih =>
  intro i3p2 va3p2_0 hd3p2 hi3p2 ha64 hb65 hg3p2_va3p2_0 hL3p2
  have hlt3p2:=zl hd3p2
  unfold ranges_pairs_3p2a
  cases h12:yo x3p2 b.l va3p2_0 with
  | x0 v6p4_0 =>
   try dsimp only
   have hv_h12:=ivt_ranges_pairs_6p4 a b i3p2 x3p2 b.l 0 va3p2_0 (List.drop_zero) (Nat.zero_le _) (by omega) (by omega) (by omega) (by omega)
   rw [h12] at hv_h12
   have hv_h12_0:=hv_h12
   try dsimp only [iv_ranges_pairs_6p4] at hv_h12_0
   exact ih (i3p2+1) v6p4_0 (zr hd3p2) (zl hd3p2) (by omega) (by omega) (by omega) (by omega)
theorem lp_ranges_pairs_3p2 (a:GS Sn) (b:GS Sn):∀ (rest3p2:List Sn) (i3p2:Nat) (hd3p2:a.l.drop i3p2=rest3p2) (hi3p2:i3p2≤a.l.length) (ha64:a.l.length≤64) (hb65:b.l.length≤65) (hL3p2:a.l.length≤1099511627776),(lim cfg).loop 87 lp87_3 ⟨40,[(1,.sl b.nl (b.l.map Sn.D) (zsl b.nl 2) none),(2,.fn (.func 93) [] []),(7,.sl true [] 0 none),(14,.sl a.nl (a.l.map Sn.D) (zsl a.nl 2) none),(15,I ((a.l.length:Nat):Int)),(16,I ((i3p2:Nat):Int))],[],1,1⟩=some (lr_ranges_pairs_3p2 a b (ranges_pairs_3p2 b rest3p2)):=by
 intro rest3p2
 induction rest3p2 with
 | nil =>
  intro i3p2 hd3p2 hi3p2 ha64 hb65 hL3p2
  unfold ranges_pairs_3p2
  obtain rfl:i3p2=a.l.length:=yC hd3p2 hi3p2
  exact zP [.dec false] (Ai (lt_no hd3p2) trivial) (by kernel_rfl)
 | cons x3p2 rest3p2 ih =>
  intro i3p2 hd3p2 hi3p2 ha64 hb65 hL3p2
  have hlt3p2:=zl hd3p2
  unfold ranges_pairs_3p2
  cases h17:ranges_pairs_6p5 x3p2 b.l with
  | x0 va6p5_0 =>
   try dsimp only
   have hv_h17:=ivt_ranges_pairs_6p5 a b i3p2 x3p2 b.l 0 (List.drop_zero) (Nat.zero_le _) (by omega) (by omega) (by omega)
   rw [h17] at hv_h17
   have hv_h17_0:=hv_h17
   try dsimp only [iv_ranges_pairs_6p5] at hv_h17_0
   exact yg (ks:=[1,2,7,14,15,16]) (st':=(sd123 a b i3p2 x3p2 va6p5_0)) [.dec true,.el (.agg [I x3p2.lo,I x3p2.hi]),.rw 21 (I ((b.l.length:Nat):Int)),.loop (.exit 2) (sd121 a b i3p2 x3p2 va6p5_0),.rw 38 (I ((i3p2+1:Nat):Int))] (Ai (yE (i:=i3p2) (by have:=zl hd3p2; omega)) (Ai (yi (q:=lr_ranges_pairs_6p5 a b i3p2 x3p2) (lp_ranges_pairs_6p5 a b i3p2 x3p2 b.l 0 (List.drop_zero) (Nat.zero_le _) (by omega) (by omega) (by omega)) h17) (Ai (zQ Sn.D b) (Ai (el_at (s:=a) (f:=Sn.D) (k:=2) hd3p2) (Ai (lt_at hd3p2) trivial))))) (by kernel_rfl) (by (simp only [sd123,go_sem,List.length_set,Nat.reduceAdd,Nat.reduceEqDiff,Nat.reduceLT,Nat.reduceLeDiff,bI2,zf.idsL,zf.renL,zf.snapAll,z7.idsL,z7.renL,z7.snapAll]) <;> rfl) (lp_ranges_pairs_3p2a a b _ (i3p2+1) va6p5_0 (zr hd3p2) (zl hd3p2) (by omega) (by omega) (by omega) (by omega)) (by kernel_rfl)
  | x1 =>
   try dsimp only
   exact po_turn [.dec true,.el (.agg [I x3p2.lo,I x3p2.hi]),.rw 21 (I ((b.l.length:Nat):Int)),.loop (.exit 2) (sd109 a b i3p2 x3p2),.rw 38 (I ((i3p2+1:Nat):Int))] (Ai (yE (i:=i3p2) (by have:=zl hd3p2; omega)) (Ai (yi (q:=lr_ranges_pairs_6p5 a b i3p2 x3p2) (lp_ranges_pairs_6p5 a b i3p2 x3p2 b.l 0 (List.drop_zero) (Nat.zero_le _) (by omega) (by omega) (by omega)) h17) (Ai (zQ Sn.D b) (Ai (el_at (s:=a) (f:=Sn.D) (k:=2) hd3p2) (Ai (lt_at hd3p2) trivial))))) (ih (i3p2+1) (zr hd3p2) (zl hd3p2) (by omega) (by omega) (by omega)) (by kernel_rfl)
theorem ivt_ranges_pairs_3p2 (a:GS Sn) (b:GS Sn):∀ (rest3p2:List Sn) (i3p2:Nat) (hd3p2:a.l.drop i3p2=rest3p2) (hi3p2:i3p2≤a.l.length) (ha64:a.l.length≤64) (hb65:b.l.length≤65) (hL3p2:a.l.length≤1099511627776),iv_ranges_pairs_3p2 a b (ranges_pairs_3p2 b rest3p2):=by
 intro rest3p2
 induction rest3p2 with
 | nil =>
  intro i3p2 hd3p2 hi3p2 ha64 hb65 hL3p2
  unfold ranges_pairs_3p2
  obtain rfl:i3p2=a.l.length:=yC hd3p2 hi3p2
  exact trivial
 | cons x3p2 rest3p2 ih =>
  intro i3p2 hd3p2 hi3p2 ha64 hb65 hL3p2
  have hlt3p2:=zl hd3p2
  unfold ranges_pairs_3p2
  cases h17:ranges_pairs_6p5 x3p2 b.l with
  | x0 va6p5_0 =>
   try dsimp only
   have hv_h17:=ivt_ranges_pairs_6p5 a b i3p2 x3p2 b.l 0 (List.drop_zero) (Nat.zero_le _) (by omega) (by omega) (by omega)
   rw [h17] at hv_h17
   have hv_h17_0:=hv_h17
   try dsimp only [iv_ranges_pairs_6p5] at hv_h17_0
   exact ivt_ranges_pairs_3p2a a b _ (i3p2+1) va6p5_0 (zr hd3p2) (zl hd3p2) (by omega) (by omega) (by omega) (by omega)
  | x1 =>
   try dsimp only
   exact ih (i3p2+1) (zr hd3p2) (zl hd3p2) (by omega) (by omega) (by omega)

def zh (a:GS Sn) (b:GS Sn):(GS Sn) × Int :=
 bif ((y7 (GS.some [a,b])) != 0) then
  (GS.nil,(y7 (GS.some [a,b])))
 else
  match ranges_pairs_3p2 b a.l with
  | .x0 va3p2_0 =>
   match zN (zq zp va3p2_0) 0 with
   | .x0 va4p1_0 =>
    bif decide (((va4p1_0.length:Nat):Int) > 64) then
     (GS.nil,2)
    else
     (GS.some va4p1_0,0)
   | .x1 i4p1 x4p1 va4p1_0 =>
    (GS.nil,2)
   | .x2 i4p1 x4p1 va4p1_0 =>
    (GS.nil,2)
   | .x3 =>
    (GS.nil,0)
   | .x4 i4p1 x4p1 =>
    (GS.nil,2)
   | .x5 i4p1 x4p1 =>
    (GS.nil,2)
  | .x1 =>
   (GS.nil,0)

def ranges_Common_o1 (a:GS Sn) (b:GS Sn) (va3p2_0:List Sn):List Ora:=[.pure (I (y7 (GS.some [a,b]))),.dec false,.inl (.lsl 1 0 va3p2_0.length 2 none) [(1,⟨va3p2_0.map Sn.D,2,false⟩)] 2]

def sd124 (a:GS Sn) (b:GS Sn) (va3p2_0:List Sn):St:=⟨40,[(17,B false),(1,.sl b.nl (b.l.map Sn.D) (zsl b.nl 2) none),(2,.fn (.func 93) [] []),(7,.lsl 1 0 va3p2_0.length 2 none),(14,.sl a.nl (a.l.map Sn.D) (zsl a.nl 2) none),(15,I ((a.l.length:Nat):Int)),(16,I ((a.l.length:Nat):Int))],[(1,⟨va3p2_0.map Sn.D,2,false⟩)],2,1⟩

def sd126 (va3p2_0:List Sn):St:=⟨65,[(4,.sl true [] 0 none),(10,.lsl 1 0 va3p2_0.length 2 none),(11,I ((va3p2_0.length:Nat):Int)),(12,I 0)],[(1,⟨(zq zp va3p2_0).map Sn.D,2,false⟩)],2,2⟩

def sd127 (va3p2_0:List Sn) (va4p1_0:List Sn):St:=⟨65,[(13,B false),(4,.lsl 2 0 va4p1_0.length 2 none),(10,.lsl 1 0 va3p2_0.length 2 none),(11,I ((va3p2_0.length:Nat):Int)),(12,I (((zq zp va3p2_0).length:Nat):Int))],[(1,⟨(zq zp va3p2_0).map Sn.D,2,false⟩),(2,⟨va4p1_0.map Sn.D,2,false⟩)],3,2⟩

def sd125 (va3p2_0:List Sn):St:=⟨65,[(12,I 0),(11,I ((va3p2_0.length:Nat):Int)),(10,.lsl 1 0 va3p2_0.length 2 none),(4,.sl true [] 0 none),(9,.tup []),(8,.lsl 1 0 va3p2_0.length 2 none),(3,I 0),(2,.sl true [] 0 none),(0,.lsl 1 0 va3p2_0.length 2 none)],[(1,⟨(zq zp va3p2_0).map Sn.D,2,false⟩)],2,2⟩

def sd128 (va3p2_0:List Sn) (va4p1_0:List Sn) (i4p1:Nat) (x4p1:Sn):St:=⟨65,[(3,I 2),(2,.sl true [] 0 none),(25,B true),(24,B true),(23,B false),(22,I x4p1.hi),(21,.lref 3 0 2 1),(20,B false),(19,B false),(18,B true),(17,I x4p1.lo),(16,.lref 3 0 2 0),(6,.lref 3 0 2 0),(15,.agg [I x4p1.lo,I x4p1.hi]),(14,.lref 1 i4p1 2 0),(13,B true),(4,.lsl 2 0 va4p1_0.length 2 none),(10,.lsl 1 0 va3p2_0.length 2 none),(11,I ((va3p2_0.length:Nat):Int)),(12,I ((i4p1:Nat):Int))],[(1,⟨(zq zp va3p2_0).map Sn.D,2,false⟩),(2,⟨va4p1_0.map Sn.D,2,false⟩),(3,⟨[.agg [I x4p1.lo,I x4p1.hi]],2,false⟩)],4,2⟩

def sd129 (va3p2_0:List Sn) (va4p1_0:List Sn) (i4p1:Nat) (x4p1:Sn):St:=⟨65,[(3,I 2),(2,.sl true [] 0 none),(25,B true),(24,.tup []),(23,.tup []),(22,.tup []),(21,.tup []),(20,B true),(19,B true),(18,B false),(17,I x4p1.lo),(16,.lref 3 0 2 0),(6,.lref 3 0 2 0),(15,.agg [I x4p1.lo,I x4p1.hi]),(14,.lref 1 i4p1 2 0),(13,B true),(4,.lsl 2 0 va4p1_0.length 2 none),(10,.lsl 1 0 va3p2_0.length 2 none),(11,I ((va3p2_0.length:Nat):Int)),(12,I ((i4p1:Nat):Int))],[(1,⟨(zq zp va3p2_0).map Sn.D,2,false⟩),(2,⟨va4p1_0.map Sn.D,2,false⟩),(3,⟨[.agg [I x4p1.lo,I x4p1.hi]],2,false⟩)],4,2⟩

def sd130 (va3p2_0:List Sn):St:=⟨65,[(13,B false),(4,.sl true [] 0 none),(10,.lsl 1 0 va3p2_0.length 2 none),(11,I ((va3p2_0.length:Nat):Int)),(12,I (((zq zp va3p2_0).length:Nat):Int))],[(1,⟨(zq zp va3p2_0).map Sn.D,2,false⟩)],2,2⟩

def sd131 (va3p2_0:List Sn) (i4p1:Nat) (x4p1:Sn):St:=⟨65,[(3,I 2),(2,.sl true [] 0 none),(25,B true),(24,B true),(23,B false),(22,I x4p1.hi),(21,.lref 2 0 2 1),(20,B false),(19,B false),(18,B true),(17,I x4p1.lo),(16,.lref 2 0 2 0),(6,.lref 2 0 2 0),(15,.agg [I x4p1.lo,I x4p1.hi]),(14,.lref 1 i4p1 2 0),(13,B true),(4,.sl true [] 0 none),(10,.lsl 1 0 va3p2_0.length 2 none),(11,I ((va3p2_0.length:Nat):Int)),(12,I ((i4p1:Nat):Int))],[(1,⟨(zq zp va3p2_0).map Sn.D,2,false⟩),(2,⟨[.agg [I x4p1.lo,I x4p1.hi]],2,false⟩)],3,2⟩

def sd132 (va3p2_0:List Sn) (i4p1:Nat) (x4p1:Sn):St:=⟨65,[(3,I 2),(2,.sl true [] 0 none),(25,B true),(24,.tup []),(23,.tup []),(22,.tup []),(21,.tup []),(20,B true),(19,B true),(18,B false),(17,I x4p1.lo),(16,.lref 2 0 2 0),(6,.lref 2 0 2 0),(15,.agg [I x4p1.lo,I x4p1.hi]),(14,.lref 1 i4p1 2 0),(13,B true),(4,.sl true [] 0 none),(10,.lsl 1 0 va3p2_0.length 2 none),(11,I ((va3p2_0.length:Nat):Int)),(12,I ((i4p1:Nat):Int))],[(1,⟨(zq zp va3p2_0).map Sn.D,2,false⟩),(2,⟨[.agg [I x4p1.lo,I x4p1.hi]],2,false⟩)],3,2⟩

def sd133 (a:GS Sn) (b:GS Sn):St:=⟨40,[(17,B false),(1,.sl b.nl (b.l.map Sn.D) (zsl b.nl 2) none),(2,.fn (.func 93) [] []),(7,.sl true [] 0 none),(14,.sl a.nl (a.l.map Sn.D) (zsl a.nl 2) none),(15,I ((a.l.length:Nat):Int)),(16,I ((a.l.length:Nat):Int))],[],1,1⟩

theorem T_ranges_Common (a:GS Sn) (b:GS Sn) (hLa:a.l.length≤9223372036854775807) (hLb:b.l.length≤9223372036854775807):(lim cfg).pure 37 [GS.D Sn.D 2 a,GS.D Sn.D 2 b]=some (.tup [GS.D Sn.D 2 ((zh a b).1),I ((zh a b).2)]):=by
 unfold zh
 have p1:=(T_ranges_check (GS.some [a,b]) (by exact yh (by omega) (by omega)) (by simp only [zG,GS.some_l,List.length_set,List.length_append,List.length_cons,List.length_nil] at * <;> first | with_reducible assumption | omega))
 cases h1:((y7 (GS.some [a,b])) != 0) with
 | true =>
  have g1:=bne_true h1
  exact zt [.pure (I (y7 (GS.some [a,b]))),.dec true] (Ai h1 (Ai p1 trivial)) (by kernel_rfl)
 | false =>
  have g1:=check2_len (bne_false h1)
  cases h18:ranges_pairs_3p2 b a.l with
  | x0 va3p2_0 =>
   try dsimp only
   have hv_h18:=ivt_ranges_pairs_3p2 a b a.l 0 (List.drop_zero) (Nat.zero_le _) (by omega) (by omega) (by omega)
   rw [h18] at hv_h18
   have hv_h18_0:=hv_h18
   try dsimp only [iv_ranges_pairs_3p2] at hv_h18_0
   have p2:=(show (lim cfg).inl 87 [.sl a.nl (a.l.map Sn.D) (zsl a.nl 2) none,.sl b.nl (b.l.map Sn.D) (zsl b.nl 2) none,.fn (.func 93) [] []] [] 1=some (.lsl 1 0 va3p2_0.length 2 none,[(1,⟨va3p2_0.map Sn.D,2,false⟩)],2) from zy [.rw 15 (I ((a.l.length:Nat):Int)),.loop (.exit 0) (sd124 a b va3p2_0)] (Ai (yi (q:=lr_ranges_pairs_3p2 a b) (lp_ranges_pairs_3p2 a b a.l 0 (List.drop_zero) (Nat.zero_le _) (by omega) (by omega) (by omega)) h18) (Ai (zQ Sn.D a) trivial)) (by kernel_rfl))
   cases h19:zN (zq zp va3p2_0) 0 with
   | x0 va4p1_0 =>
    try dsimp only
    have hv_h19:=ivt_ranges_gathered_4p1 va3p2_0 (zq zp va3p2_0) (zq zp va3p2_0) 0 (List.drop_zero) (Nat.zero_le _) (by simp only [zG,GS.some_l,List.length_set,List.length_append,List.length_cons,List.length_nil] at * <;> first | with_reducible assumption | omega) (by simp only [zG,GS.some_l,List.length_set,List.length_append,List.length_cons,List.length_nil] at * <;> first | with_reducible assumption | omega)
    rw [h19] at hv_h19
    obtain ⟨hv_h19_0,hv_h19_1⟩:=hv_h19
    try dsimp only [y9] at hv_h19_0
    try dsimp only [y9] at hv_h19_1
    cases h20:decide (((va4p1_0.length:Nat):Int) > 64) with
    | true =>
     have g20:=of_decide_eq_true h20
     exact zt ((ranges_Common_o1 a b va3p2_0)++[.inlS [1] (.tup [.sl true [] 0 none,I 2]) [(1,⟨(zq zp va3p2_0).map Sn.D,2,false⟩),(2,⟨va4p1_0.map Sn.D,2,false⟩)] 3]) (Ai (Ai (show zk [(0,⟨[.sl a.nl (a.l.map Sn.D) (zsl a.nl 2) none,.sl b.nl (b.l.map Sn.D) (zsl b.nl 2) none],1,false⟩),(1,⟨va3p2_0.map Sn.D,2,false⟩)] 256 [1] []=some [1] from (by (simp only [zk,go_sem,List.length_set,Nat.reduceAdd,Nat.reduceEqDiff,Nat.reduceLT,Nat.reduceLeDiff,bI2,zf.idsL,zf.renL,zf.snapAll,z7.idsL,z7.renL,z7.snapAll]) <;> rfl)) (show (lim cfg).inl 69 [.lsl 1 0 va3p2_0.length 2 none] [(1,⟨va3p2_0.map Sn.D,2,false⟩)] 2=some (.tup [.sl true [] 0 none,I 2],[(1,⟨(zq zp va3p2_0).map Sn.D,2,false⟩),(2,⟨va4p1_0.map Sn.D,2,false⟩)],3) from zy [.inlS [1] (.tup []) [(1,⟨(zq zp va3p2_0).map Sn.D,2,false⟩)] 2,.gloop (sd126 va3p2_0) (.exit 0) (sd127 va3p2_0 va4p1_0),.dec true] (Ai h20 (Ai (yi (q:=zW va3p2_0 (zq zp va3p2_0)) (lp_ranges_gathered_4p1 va3p2_0 (zq zp va3p2_0) (zq zp va3p2_0) 0 (List.drop_zero) (Nat.zero_le _) (by simp only [zG,GS.some_l,List.length_set,List.length_append,List.length_cons,List.length_nil] at * <;> first | with_reducible assumption | omega) (by simp only [zG,GS.some_l,List.length_set,List.length_append,List.length_cons,List.length_nil] at * <;> first | with_reducible assumption | omega)) h19) (Ai (gc_of (C:=cfg) (f:=69) (a:=lp69_4) (ks:=[4,10,11,12]) (st:=(sd125 va3p2_0)) (st1:=(sd126 va3p2_0)) (by kernel_rfl) (by (simp only [sd125,sd126,go_sem,List.length_set,Nat.reduceAdd,Nat.reduceEqDiff,Nat.reduceLT,Nat.reduceLeDiff,bI2,zf.idsL,zf.renL,zf.snapAll,z7.idsL,z7.renL,z7.snapAll]) <;> rfl)) (Ai (Ai (show zk [(1,⟨va3p2_0.map Sn.D,2,false⟩)] 256 [1] []=some [1] from (by (simp only [zk,go_sem,List.length_set,Nat.reduceAdd,Nat.reduceEqDiff,Nat.reduceLT,Nat.reduceLeDiff,bI2,zf.idsL,zf.renL,zf.snapAll,z7.idsL,z7.renL,z7.snapAll]) <;> rfl)) (T_sort 1 2 none va3p2_0 (by omega))) trivial)))) (by kernel_rfl))) (Ai p2 (Ai h1 (Ai p1 trivial)))) (by kernel_rfl)
    | false =>
     have g20:=of_decide_eq_false h20
     exact po_pureS ((ranges_Common_o1 a b va3p2_0)++[.inlS [1] (.tup [.lsl 2 0 va4p1_0.length 2 none,I 0]) [(1,⟨(zq zp va3p2_0).map Sn.D,2,false⟩),(2,⟨va4p1_0.map Sn.D,2,false⟩)] 3]) [(2,.sl false (va4p1_0.map Sn.D) 2 none,[2])] (Ai (snap_row (gO:=zF [(0,⟨[.sl a.nl (a.l.map Sn.D) (zsl a.nl 2) none,.sl b.nl (b.l.map Sn.D) (zsl b.nl 2) none],1,false⟩),(1,⟨(zq zp va3p2_0).map Sn.D,2,false⟩),(2,⟨va4p1_0.map Sn.D,2,false⟩)]) (o:=2) (len:=va4p1_0.length) (cap:=none) (fz:=false) z7 va4p1_0 (by kernel_rfl) (by omega)) (Ai (Ai (show zk [(0,⟨[.sl a.nl (a.l.map Sn.D) (zsl a.nl 2) none,.sl b.nl (b.l.map Sn.D) (zsl b.nl 2) none],1,false⟩),(1,⟨va3p2_0.map Sn.D,2,false⟩)] 256 [1] []=some [1] from (by (simp only [zk,go_sem,List.length_set,Nat.reduceAdd,Nat.reduceEqDiff,Nat.reduceLT,Nat.reduceLeDiff,bI2,zf.idsL,zf.renL,zf.snapAll,z7.idsL,z7.renL,z7.snapAll]) <;> rfl)) (show (lim cfg).inl 69 [.lsl 1 0 va3p2_0.length 2 none] [(1,⟨va3p2_0.map Sn.D,2,false⟩)] 2=some (.tup [.lsl 2 0 va4p1_0.length 2 none,I 0],[(1,⟨(zq zp va3p2_0).map Sn.D,2,false⟩),(2,⟨va4p1_0.map Sn.D,2,false⟩)],3) from zy [.inlS [1] (.tup []) [(1,⟨(zq zp va3p2_0).map Sn.D,2,false⟩)] 2,.gloop (sd126 va3p2_0) (.exit 0) (sd127 va3p2_0 va4p1_0),.dec false] (Ai h20 (Ai (yi (q:=zW va3p2_0 (zq zp va3p2_0)) (lp_ranges_gathered_4p1 va3p2_0 (zq zp va3p2_0) (zq zp va3p2_0) 0 (List.drop_zero) (Nat.zero_le _) (by simp only [zG,GS.some_l,List.length_set,List.length_append,List.length_cons,List.length_nil] at * <;> first | with_reducible assumption | omega) (by simp only [zG,GS.some_l,List.length_set,List.length_append,List.length_cons,List.length_nil] at * <;> first | with_reducible assumption | omega)) h19) (Ai (gc_of (C:=cfg) (f:=69) (a:=lp69_4) (ks:=[4,10,11,12]) (st:=(sd125 va3p2_0)) (st1:=(sd126 va3p2_0)) (by kernel_rfl) (by (simp only [sd125,sd126,go_sem,List.length_set,Nat.reduceAdd,Nat.reduceEqDiff,Nat.reduceLT,Nat.reduceLeDiff,bI2,zf.idsL,zf.renL,zf.snapAll,z7.idsL,z7.renL,z7.snapAll]) <;> rfl)) (Ai (Ai (show zk [(1,⟨va3p2_0.map Sn.D,2,false⟩)] 256 [1] []=some [1] from (by (simp only [zk,go_sem,List.length_set,Nat.reduceAdd,Nat.reduceEqDiff,Nat.reduceLT,Nat.reduceLeDiff,bI2,zf.idsL,zf.renL,zf.snapAll,z7.idsL,z7.renL,z7.snapAll]) <;> rfl)) (T_sort 1 2 none va3p2_0 (by omega))) trivial)))) (by kernel_rfl))) (Ai p2 (Ai h1 (Ai p1 trivial))))) (by kernel_rfl)
   | x1 i4p1 x4p1 va4p1_0 =>
    try dsimp only
    have hv_h19:=ivt_ranges_gathered_4p1 va3p2_0 (zq zp va3p2_0) (zq zp va3p2_0) 0 (List.drop_zero) (Nat.zero_le _) (by simp only [zG,GS.some_l,List.length_set,List.length_append,List.length_cons,List.length_nil] at * <;> first | with_reducible assumption | omega) (by simp only [zG,GS.some_l,List.length_set,List.length_append,List.length_cons,List.length_nil] at * <;> first | with_reducible assumption | omega)
    rw [h19] at hv_h19
    obtain ⟨hv_h19_0,hv_h19_1⟩:=hv_h19
    try dsimp only [y9] at hv_h19_0
    try dsimp only [y9] at hv_h19_1
    exact zt ((ranges_Common_o1 a b va3p2_0)++[.inlS [1] (.tup [.sl true [] 0 none,I 2]) [(1,⟨(zq zp va3p2_0).map Sn.D,2,false⟩),(2,⟨va4p1_0.map Sn.D,2,false⟩),(3,⟨[.agg [I x4p1.lo,I x4p1.hi]],2,false⟩)] 4]) (Ai (Ai (show zk [(0,⟨[.sl a.nl (a.l.map Sn.D) (zsl a.nl 2) none,.sl b.nl (b.l.map Sn.D) (zsl b.nl 2) none],1,false⟩),(1,⟨va3p2_0.map Sn.D,2,false⟩)] 256 [1] []=some [1] from (by (simp only [zk,go_sem,List.length_set,Nat.reduceAdd,Nat.reduceEqDiff,Nat.reduceLT,Nat.reduceLeDiff,bI2,zf.idsL,zf.renL,zf.snapAll,z7.idsL,z7.renL,z7.snapAll]) <;> rfl)) (show (lim cfg).inl 69 [.lsl 1 0 va3p2_0.length 2 none] [(1,⟨va3p2_0.map Sn.D,2,false⟩)] 2=some (.tup [.sl true [] 0 none,I 2],[(1,⟨(zq zp va3p2_0).map Sn.D,2,false⟩),(2,⟨va4p1_0.map Sn.D,2,false⟩),(3,⟨[.agg [I x4p1.lo,I x4p1.hi]],2,false⟩)],4) from zy [.inlS [1] (.tup []) [(1,⟨(zq zp va3p2_0).map Sn.D,2,false⟩)] 2,.gloop (sd126 va3p2_0) .ret (sd128 va3p2_0 va4p1_0 i4p1 x4p1)] (Ai (yi (q:=zW va3p2_0 (zq zp va3p2_0)) (lp_ranges_gathered_4p1 va3p2_0 (zq zp va3p2_0) (zq zp va3p2_0) 0 (List.drop_zero) (Nat.zero_le _) (by simp only [zG,GS.some_l,List.length_set,List.length_append,List.length_cons,List.length_nil] at * <;> first | with_reducible assumption | omega) (by simp only [zG,GS.some_l,List.length_set,List.length_append,List.length_cons,List.length_nil] at * <;> first | with_reducible assumption | omega)) h19) (Ai (gc_of (C:=cfg) (f:=69) (a:=lp69_4) (ks:=[4,10,11,12]) (st:=(sd125 va3p2_0)) (st1:=(sd126 va3p2_0)) (by kernel_rfl) (by (simp only [sd125,sd126,go_sem,List.length_set,Nat.reduceAdd,Nat.reduceEqDiff,Nat.reduceLT,Nat.reduceLeDiff,bI2,zf.idsL,zf.renL,zf.snapAll,z7.idsL,z7.renL,z7.snapAll]) <;> rfl)) (Ai (Ai (show zk [(1,⟨va3p2_0.map Sn.D,2,false⟩)] 256 [1] []=some [1] from (by (simp only [zk,go_sem,List.length_set,Nat.reduceAdd,Nat.reduceEqDiff,Nat.reduceLT,Nat.reduceLeDiff,bI2,zf.idsL,zf.renL,zf.snapAll,z7.idsL,z7.renL,z7.snapAll]) <;> rfl)) (T_sort 1 2 none va3p2_0 (by omega))) trivial))) (by kernel_rfl))) (Ai p2 (Ai h1 (Ai p1 trivial)))) (by kernel_rfl)
   | x2 i4p1 x4p1 va4p1_0 =>
    try dsimp only
    have hv_h19:=ivt_ranges_gathered_4p1 va3p2_0 (zq zp va3p2_0) (zq zp va3p2_0) 0 (List.drop_zero) (Nat.zero_le _) (by simp only [zG,GS.some_l,List.length_set,List.length_append,List.length_cons,List.length_nil] at * <;> first | with_reducible assumption | omega) (by simp only [zG,GS.some_l,List.length_set,List.length_append,List.length_cons,List.length_nil] at * <;> first | with_reducible assumption | omega)
    rw [h19] at hv_h19
    obtain ⟨hv_h19_0,hv_h19_1⟩:=hv_h19
    try dsimp only [y9] at hv_h19_0
    try dsimp only [y9] at hv_h19_1
    exact zt ((ranges_Common_o1 a b va3p2_0)++[.inlS [1] (.tup [.sl true [] 0 none,I 2]) [(1,⟨(zq zp va3p2_0).map Sn.D,2,false⟩),(2,⟨va4p1_0.map Sn.D,2,false⟩),(3,⟨[.agg [I x4p1.lo,I x4p1.hi]],2,false⟩)] 4]) (Ai (Ai (show zk [(0,⟨[.sl a.nl (a.l.map Sn.D) (zsl a.nl 2) none,.sl b.nl (b.l.map Sn.D) (zsl b.nl 2) none],1,false⟩),(1,⟨va3p2_0.map Sn.D,2,false⟩)] 256 [1] []=some [1] from (by (simp only [zk,go_sem,List.length_set,Nat.reduceAdd,Nat.reduceEqDiff,Nat.reduceLT,Nat.reduceLeDiff,bI2,zf.idsL,zf.renL,zf.snapAll,z7.idsL,z7.renL,z7.snapAll]) <;> rfl)) (show (lim cfg).inl 69 [.lsl 1 0 va3p2_0.length 2 none] [(1,⟨va3p2_0.map Sn.D,2,false⟩)] 2=some (.tup [.sl true [] 0 none,I 2],[(1,⟨(zq zp va3p2_0).map Sn.D,2,false⟩),(2,⟨va4p1_0.map Sn.D,2,false⟩),(3,⟨[.agg [I x4p1.lo,I x4p1.hi]],2,false⟩)],4) from zy [.inlS [1] (.tup []) [(1,⟨(zq zp va3p2_0).map Sn.D,2,false⟩)] 2,.gloop (sd126 va3p2_0) .ret (sd129 va3p2_0 va4p1_0 i4p1 x4p1)] (Ai (yi (q:=zW va3p2_0 (zq zp va3p2_0)) (lp_ranges_gathered_4p1 va3p2_0 (zq zp va3p2_0) (zq zp va3p2_0) 0 (List.drop_zero) (Nat.zero_le _) (by simp only [zG,GS.some_l,List.length_set,List.length_append,List.length_cons,List.length_nil] at * <;> first | with_reducible assumption | omega) (by simp only [zG,GS.some_l,List.length_set,List.length_append,List.length_cons,List.length_nil] at * <;> first | with_reducible assumption | omega)) h19) (Ai (gc_of (C:=cfg) (f:=69) (a:=lp69_4) (ks:=[4,10,11,12]) (st:=(sd125 va3p2_0)) (st1:=(sd126 va3p2_0)) (by kernel_rfl) (by (simp only [sd125,sd126,go_sem,List.length_set,Nat.reduceAdd,Nat.reduceEqDiff,Nat.reduceLT,Nat.reduceLeDiff,bI2,zf.idsL,zf.renL,zf.snapAll,z7.idsL,z7.renL,z7.snapAll]) <;> rfl)) (Ai (Ai (show zk [(1,⟨va3p2_0.map Sn.D,2,false⟩)] 256 [1] []=some [1] from (by (simp only [zk,go_sem,List.length_set,Nat.reduceAdd,Nat.reduceEqDiff,Nat.reduceLT,Nat.reduceLeDiff,bI2,zf.idsL,zf.renL,zf.snapAll,z7.idsL,z7.renL,z7.snapAll]) <;> rfl)) (T_sort 1 2 none va3p2_0 (by omega))) trivial))) (by kernel_rfl))) (Ai p2 (Ai h1 (Ai p1 trivial)))) (by kernel_rfl)
   | x3 =>
    try dsimp only
    exact zt ((ranges_Common_o1 a b va3p2_0)++[.inlS [1] (.tup [.sl true [] 0 none,I 0]) [(1,⟨(zq zp va3p2_0).map Sn.D,2,false⟩)] 2]) (Ai (Ai (show zk [(0,⟨[.sl a.nl (a.l.map Sn.D) (zsl a.nl 2) none,.sl b.nl (b.l.map Sn.D) (zsl b.nl 2) none],1,false⟩),(1,⟨va3p2_0.map Sn.D,2,false⟩)] 256 [1] []=some [1] from (by (simp only [zk,go_sem,List.length_set,Nat.reduceAdd,Nat.reduceEqDiff,Nat.reduceLT,Nat.reduceLeDiff,bI2,zf.idsL,zf.renL,zf.snapAll,z7.idsL,z7.renL,z7.snapAll]) <;> rfl)) (show (lim cfg).inl 69 [.lsl 1 0 va3p2_0.length 2 none] [(1,⟨va3p2_0.map Sn.D,2,false⟩)] 2=some (.tup [.sl true [] 0 none,I 0],[(1,⟨(zq zp va3p2_0).map Sn.D,2,false⟩)],2) from zy [.inlS [1] (.tup []) [(1,⟨(zq zp va3p2_0).map Sn.D,2,false⟩)] 2,.gloop (sd126 va3p2_0) (.exit 0) (sd130 va3p2_0),.dec false] (Ai (Eq.refl false) (Ai (yi (q:=zW va3p2_0 (zq zp va3p2_0)) (lp_ranges_gathered_4p1 va3p2_0 (zq zp va3p2_0) (zq zp va3p2_0) 0 (List.drop_zero) (Nat.zero_le _) (by simp only [zG,GS.some_l,List.length_set,List.length_append,List.length_cons,List.length_nil] at * <;> first | with_reducible assumption | omega) (by simp only [zG,GS.some_l,List.length_set,List.length_append,List.length_cons,List.length_nil] at * <;> first | with_reducible assumption | omega)) h19) (Ai (gc_of (C:=cfg) (f:=69) (a:=lp69_4) (ks:=[4,10,11,12]) (st:=(sd125 va3p2_0)) (st1:=(sd126 va3p2_0)) (by kernel_rfl) (by (simp only [sd125,sd126,go_sem,List.length_set,Nat.reduceAdd,Nat.reduceEqDiff,Nat.reduceLT,Nat.reduceLeDiff,bI2,zf.idsL,zf.renL,zf.snapAll,z7.idsL,z7.renL,z7.snapAll]) <;> rfl)) (Ai (Ai (show zk [(1,⟨va3p2_0.map Sn.D,2,false⟩)] 256 [1] []=some [1] from (by (simp only [zk,go_sem,List.length_set,Nat.reduceAdd,Nat.reduceEqDiff,Nat.reduceLT,Nat.reduceLeDiff,bI2,zf.idsL,zf.renL,zf.snapAll,z7.idsL,z7.renL,z7.snapAll]) <;> rfl)) (T_sort 1 2 none va3p2_0 (by omega))) trivial)))) (by kernel_rfl))) (Ai p2 (Ai h1 (Ai p1 trivial)))) (by kernel_rfl)
   | x4 i4p1 x4p1 =>
    try dsimp only
    exact zt ((ranges_Common_o1 a b va3p2_0)++[.inlS [1] (.tup [.sl true [] 0 none,I 2]) [(1,⟨(zq zp va3p2_0).map Sn.D,2,false⟩),(2,⟨[.agg [I x4p1.lo,I x4p1.hi]],2,false⟩)] 3]) (Ai (Ai (show zk [(0,⟨[.sl a.nl (a.l.map Sn.D) (zsl a.nl 2) none,.sl b.nl (b.l.map Sn.D) (zsl b.nl 2) none],1,false⟩),(1,⟨va3p2_0.map Sn.D,2,false⟩)] 256 [1] []=some [1] from (by (simp only [zk,go_sem,List.length_set,Nat.reduceAdd,Nat.reduceEqDiff,Nat.reduceLT,Nat.reduceLeDiff,bI2,zf.idsL,zf.renL,zf.snapAll,z7.idsL,z7.renL,z7.snapAll]) <;> rfl)) (show (lim cfg).inl 69 [.lsl 1 0 va3p2_0.length 2 none] [(1,⟨va3p2_0.map Sn.D,2,false⟩)] 2=some (.tup [.sl true [] 0 none,I 2],[(1,⟨(zq zp va3p2_0).map Sn.D,2,false⟩),(2,⟨[.agg [I x4p1.lo,I x4p1.hi]],2,false⟩)],3) from zy [.inlS [1] (.tup []) [(1,⟨(zq zp va3p2_0).map Sn.D,2,false⟩)] 2,.gloop (sd126 va3p2_0) .ret (sd131 va3p2_0 i4p1 x4p1)] (Ai (yi (q:=zW va3p2_0 (zq zp va3p2_0)) (lp_ranges_gathered_4p1 va3p2_0 (zq zp va3p2_0) (zq zp va3p2_0) 0 (List.drop_zero) (Nat.zero_le _) (by simp only [zG,GS.some_l,List.length_set,List.length_append,List.length_cons,List.length_nil] at * <;> first | with_reducible assumption | omega) (by simp only [zG,GS.some_l,List.length_set,List.length_append,List.length_cons,List.length_nil] at * <;> first | with_reducible assumption | omega)) h19) (Ai (gc_of (C:=cfg) (f:=69) (a:=lp69_4) (ks:=[4,10,11,12]) (st:=(sd125 va3p2_0)) (st1:=(sd126 va3p2_0)) (by kernel_rfl) (by (simp only [sd125,sd126,go_sem,List.length_set,Nat.reduceAdd,Nat.reduceEqDiff,Nat.reduceLT,Nat.reduceLeDiff,bI2,zf.idsL,zf.renL,zf.snapAll,z7.idsL,z7.renL,z7.snapAll]) <;> rfl)) (Ai (Ai (show zk [(1,⟨va3p2_0.map Sn.D,2,false⟩)] 256 [1] []=some [1] from (by (simp only [zk,go_sem,List.length_set,Nat.reduceAdd,Nat.reduceEqDiff,Nat.reduceLT,Nat.reduceLeDiff,bI2,zf.idsL,zf.renL,zf.snapAll,z7.idsL,z7.renL,z7.snapAll]) <;> rfl)) (T_sort 1 2 none va3p2_0 (by omega))) trivial))) (by kernel_rfl))) (Ai p2 (Ai h1 (Ai p1 trivial)))) (by kernel_rfl)
   | x5 i4p1 x4p1 =>
    try dsimp only
    exact zt ((ranges_Common_o1 a b va3p2_0)++[.inlS [1] (.tup [.sl true [] 0 none,I 2]) [(1,⟨(zq zp va3p2_0).map Sn.D,2,false⟩),(2,⟨[.agg [I x4p1.lo,I x4p1.hi]],2,false⟩)] 3]) (Ai (Ai (show zk [(0,⟨[.sl a.nl (a.l.map Sn.D) (zsl a.nl 2) none,.sl b.nl (b.l.map Sn.D) (zsl b.nl 2) none],1,false⟩),(1,⟨va3p2_0.map Sn.D,2,false⟩)] 256 [1] []=some [1] from (by (simp only [zk,go_sem,List.length_set,Nat.reduceAdd,Nat.reduceEqDiff,Nat.reduceLT,Nat.reduceLeDiff,bI2,zf.idsL,zf.renL,zf.snapAll,z7.idsL,z7.renL,z7.snapAll]) <;> rfl)) (show (lim cfg).inl 69 [.lsl 1 0 va3p2_0.length 2 none] [(1,⟨va3p2_0.map Sn.D,2,false⟩)] 2=some (.tup [.sl true [] 0 none,I 2],[(1,⟨(zq zp va3p2_0).map Sn.D,2,false⟩),(2,⟨[.agg [I x4p1.lo,I x4p1.hi]],2,false⟩)],3) from zy [.inlS [1] (.tup []) [(1,⟨(zq zp va3p2_0).map Sn.D,2,false⟩)] 2,.gloop (sd126 va3p2_0) .ret (sd132 va3p2_0 i4p1 x4p1)] (Ai (yi (q:=zW va3p2_0 (zq zp va3p2_0)) (lp_ranges_gathered_4p1 va3p2_0 (zq zp va3p2_0) (zq zp va3p2_0) 0 (List.drop_zero) (Nat.zero_le _) (by simp only [zG,GS.some_l,List.length_set,List.length_append,List.length_cons,List.length_nil] at * <;> first | with_reducible assumption | omega) (by simp only [zG,GS.some_l,List.length_set,List.length_append,List.length_cons,List.length_nil] at * <;> first | with_reducible assumption | omega)) h19) (Ai (gc_of (C:=cfg) (f:=69) (a:=lp69_4) (ks:=[4,10,11,12]) (st:=(sd125 va3p2_0)) (st1:=(sd126 va3p2_0)) (by kernel_rfl) (by (simp only [sd125,sd126,go_sem,List.length_set,Nat.reduceAdd,Nat.reduceEqDiff,Nat.reduceLT,Nat.reduceLeDiff,bI2,zf.idsL,zf.renL,zf.snapAll,z7.idsL,z7.renL,z7.snapAll]) <;> rfl)) (Ai (Ai (show zk [(1,⟨va3p2_0.map Sn.D,2,false⟩)] 256 [1] []=some [1] from (by (simp only [zk,go_sem,List.length_set,Nat.reduceAdd,Nat.reduceEqDiff,Nat.reduceLT,Nat.reduceLeDiff,bI2,zf.idsL,zf.renL,zf.snapAll,z7.idsL,z7.renL,z7.snapAll]) <;> rfl)) (T_sort 1 2 none va3p2_0 (by omega))) trivial))) (by kernel_rfl))) (Ai p2 (Ai h1 (Ai p1 trivial)))) (by kernel_rfl)
  | x1 =>
   try dsimp only
   exact zt [.pure (I (y7 (GS.some [a,b]))),.dec false,.inl (.sl true [] 0 none) [] 1,.inl (.tup [.sl true [] 0 none,I 0]) [] 1] (Ai (show (lim cfg).inl 69 [.sl true [] 0 none] [] 1=some (.tup [.sl true [] 0 none,I 0],[],1) from zy [.inl (.tup []) [] 1,.loop (.exit 0) ⟨65,[(13,B false),(4,.sl true [] 0 none),(10,.sl true [] 0 none),(11,I 0),(12,I 0)],[],1,1⟩,.dec false] (Ai (Eq.refl false) (Ai (show (lim cfg).loop 69 lp69_4 ⟨65,[(4,.sl true [] 0 none),(10,.sl true [] 0 none),(11,I 0),(12,I 0)],[],1,1⟩=some ((.exit 0),⟨65,[(13,B false),(4,.sl true [] 0 none),(10,.sl true [] 0 none),(11,I 0),(12,I 0)],[],1,1⟩) from (zP [.dec false] (Ai (Eq.refl false) trivial) (by kernel_rfl))) (Ai (T_sort_nil 1) trivial))) (by kernel_rfl)) (Ai (show (lim cfg).inl 87 [.sl a.nl (a.l.map Sn.D) (zsl a.nl 2) none,.sl b.nl (b.l.map Sn.D) (zsl b.nl 2) none,.fn (.func 93) [] []] [] 1=some (.sl true [] 0 none,[],1) from zy [.rw 15 (I ((a.l.length:Nat):Int)),.loop (.exit 0) (sd133 a b)] (Ai (yi (q:=lr_ranges_pairs_3p2 a b) (lp_ranges_pairs_3p2 a b a.l 0 (List.drop_zero) (Nat.zero_le _) (by omega) (by omega) (by omega)) h18) (Ai (zQ Sn.D a) trivial)) (by kernel_rfl)) (Ai h1 (Ai p1 trivial)))) (by kernel_rfl)
end Go.VS

namespace Go.VS
open Go
set_option maxHeartbeats 0
theorem some_l (lo hi:Int):(zj lo hi).l=someS lo hi:=by
 unfold zj someS
 by_cases h:lo > hi
 ·rw [decide_eq_true h,if_pos h]; rfl
 ·rw [decide_eq_false h,if_neg h]; rfl
theorem emp_app {α:Type} {v l:List α} {β:Type} (f:List α→β):(bif l.isEmpty then f v else f (v++l))=f (v++l):=by
 cases l <;> simp
theorem out4a_len:∀ (l v:List Sn) (f:Int),∃ v' f',yj l v f=.x0 v' f'∧v'.length≤v.length+l.length
 | [],v,f=>⟨v,f,rfl,Nat.le_refl _⟩
 | x::l,v,f=>by
  unfold yj
  rw [emp_app (fun z=>yj l z (w64 (x.hi+1)))]
  obtain ⟨v',f',e,h⟩:=out4a_len l (v++(zj f (w64 (x.lo - 1))).l) (w64 (x.hi+1))
  refine ⟨v',f',e,?_⟩
  have:=some1 f (w64 (x.lo - 1))
  simp only [List.length_append,List.length_cons] at h ⊢
  omega
theorem out4_len:∀ (l:List Sn) (f:Int),(∃ v' f',yn l f=.x0 v' f'∧v'.length≤l.length) ∨ ∃ f',yn l f=.x1 f'
 | [],f=>.inr ⟨f,rfl⟩
 | x::l,f=>by
  unfold yn
  cases he:((zj f (w64 (x.lo - 1))).l).isEmpty with
  | true =>
   rcases out4_len l (w64 (x.hi+1)) with ⟨v',f',e,h⟩ | ⟨f',e⟩
   ·exact .inl ⟨v',f',e,by simp only [List.length_cons]; omega⟩
   ·exact .inr ⟨f',e⟩
  | false =>
   obtain ⟨v',f',e,h⟩:=out4a_len l ((zj f (w64 (x.lo - 1))).l) (w64 (x.hi+1))
   have:=some1 f (w64 (x.lo - 1))
   exact .inl ⟨v',f',e,by simp only [List.length_cons]; omega⟩
theorem outsideLen (r:GS Sn) (h:r.l.length≤64):(ze r).l.length≤65:=by
 unfold ze
 rcases out4_len r.l (-1099511627776) with ⟨v',f',e,h'⟩ | ⟨f',e⟩ <;> rw [e] <;> dsimp only
 ·have:=some1 f' 1099511627776
  cases ((zj f' 1099511627776).l).isEmpty <;> simp [GS.some] <;> omega
 ·have:=some1 f' 1099511627776
  cases ((zj f' 1099511627776).l).isEmpty <;> simp [GS.some,GS.nil] <;> omega
theorem out4a_eq:∀ (l v:List Sn) (f:Int),bd l→∃ v' f',yj l v f=.x0 v' f'∧v'++someS f' 1099511627776=v++outS f l
 | [],v,f,_=>⟨v,f,rfl,rfl⟩
 | x::l,v,f,h=>by
  have hx:=h x List.mem_cons_self
  unfold yj
  rw [emp_app (fun z=>yj l z (w64 (x.hi+1))),w64_eq (by omega) (by omega),w64_eq (by omega) (by omega),some_l]
  obtain ⟨v',f',e,k⟩:=out4a_eq l (v++someS f (x.lo - 1)) (x.hi+1) (fun t ht=>h t (List.mem_cons_of_mem _ ht))
  exact ⟨v',f',e,by rw [k,List.append_assoc]; rfl⟩
theorem out4_eq:∀ (l:List Sn) (f:Int),bd l→(∃ v' f',yn l f=.x0 v' f'∧v'++someS f' 1099511627776=outS f l) ∨ ∃ f',yn l f=.x1 f'∧someS f' 1099511627776=outS f l
 | [],f,_=>.inr ⟨f,rfl,rfl⟩
 | x::l,f,h=>by
  have hx:=h x List.mem_cons_self
  have h':=fun t ht=>h t (List.mem_cons_of_mem _ ht)
  unfold yn
  rw [w64_eq (by omega) (by omega),w64_eq (by omega) (by omega),some_l]
  cases he:(someS f (x.lo - 1)).isEmpty with
  | true =>
   have e0:someS f (x.lo - 1)=[]:=by simpa using he
   have e1:outS f (x::l)=outS (x.hi+1) l:=by
    show someS f (x.lo - 1)++outS (x.hi+1) l=_
    rw [e0]; rfl
   rw [e1]
   exact out4_eq l (x.hi+1) h'
  | false =>
   obtain ⟨v',f',e,k⟩:=out4a_eq l (someS f (x.lo - 1)) (x.hi+1) h'
   exact .inl ⟨v',f',e,k⟩
theorem outside_eq {r : GS Sn} (h : bd r.l) : (ze r).l = outS (-1099511627776) r.l := by
  unfold ze
  rcases out4_eq r.l (-1099511627776) h with ⟨v', f', e, k⟩ | ⟨f', e, k⟩ <;> rw [e] <;> dsimp only <;> rw [some_l, ← k]
  · cases he : (someS f' 1099511627776).isEmpty with
    | true => have e0 : someS f' 1099511627776 = [] := by simpa using he
              rw [e0]; simp [GS.some]
    | false => rfl
  · cases he : (someS f' 1099511627776).isEmpty with
    | true => have e0 : someS f' 1099511627776 = [] := by simpa using he
              rw [e0]; rfl
    | false => rfl
end Go.VS

namespace Go.VS
open Go Go.Proofs
set_option maxHeartbeats 0
set_option linter.unusedSimpArgs false
set_option linter.unusedVariables false
theorem zB (r:GS Sn) (h:r.l.length≤64):(ze r).l.length≤65:=outsideLen r h

def sd144 (a:GS Sn) (i3p3:Nat) (q3p3_0:GS Sn) (x3p3:Sn) (i6p6:Nat) (x6p6:Sn) (v6p6_0:List Sn):St:=⟨40,[(22,I ((i6p6+1:Nat):Int)),(37,I ((i6p6+1:Nat):Int)),(36,B false),(7,.lsl 1 0 v6p6_0.length 2 none),(35,.lsl 1 0 v6p6_0.length 2 none),(34,.sl (((zc x3p3 x6p6).1).nl) ((((zc x3p3 x6p6).1).l).map Sn.D) (zsl (((zc x3p3 x6p6).1).nl) 2) none),(33,.lsl 1 0 v6p6_0.length 2 none),(13,B false),(12,.sl (((zc x3p3 x6p6).1).nl) ((((zc x3p3 x6p6).1).l).map Sn.D) (zsl (((zc x3p3 x6p6).1).nl) 2) none),(32,B false),(31,.sl (((zc x3p3 x6p6).1).nl) ((((zc x3p3 x6p6).1).l).map Sn.D) (zsl (((zc x3p3 x6p6).1).nl) 2) none),(26,.tup [.sl (((zc x3p3 x6p6).1).nl) ((((zc x3p3 x6p6).1).l).map Sn.D) (zsl (((zc x3p3 x6p6).1).nl) 2) none,B ((zc x3p3 x6p6).2)]),(30,.tup [.sl (((zc x3p3 x6p6).1).nl) ((((zc x3p3 x6p6).1).l).map Sn.D) (zsl (((zc x3p3 x6p6).1).nl) 2) none,B ((zc x3p3 x6p6).2)]),(29,.agg [I x6p6.lo,I x6p6.hi]),(28,.agg [I x3p3.lo,I x3p3.hi]),(27,.fn (.func 97) [] []),(11,.lref 3 0 2 0),(25,.agg [I x6p6.lo,I x6p6.hi]),(24,.ptr (.agg [I x6p6.lo,I x6p6.hi])),(23,B true),(1,.sl q3p3_0.nl (q3p3_0.l.map Sn.D) (zsl q3p3_0.nl 2) none),(2,.fn (.func 97) [] []),(7,.lsl 1 0 v6p6_0.length 2 none),(9,.lref 2 0 2 0),(14,.sl a.nl (a.l.map Sn.D) (zsl a.nl 2) none),(15,I ((a.l.length:Nat):Int)),(16,I ((i3p3:Nat):Int)),(20,.sl q3p3_0.nl (q3p3_0.l.map Sn.D) (zsl q3p3_0.nl 2) none),(21,I ((q3p3_0.l.length:Nat):Int)),(22,I ((i6p6:Nat):Int))],[(1,⟨v6p6_0.map Sn.D,2,false⟩),(2,⟨[.agg [I x3p3.lo,I x3p3.hi]],2,false⟩),(3,⟨[.agg [I x6p6.lo,I x6p6.hi]],2,false⟩)],4,1⟩

def sd145 (a:GS Sn) (i3p3:Nat) (q3p3_0:GS Sn) (x3p3:Sn) (i6p6:Nat) (x6p6:Sn) (v6p6_0:List Sn):St:=⟨40,[(22,I ((i6p6+1:Nat):Int)),(37,I ((i6p6+1:Nat):Int)),(36,B false),(7,.lsl 4 0 ((v6p6_0++(((zc x3p3 x6p6).1).l)).length) 2 none),(35,.lsl 4 0 ((v6p6_0++(((zc x3p3 x6p6).1).l)).length) 2 none),(34,.sl (((zc x3p3 x6p6).1).nl) ((((zc x3p3 x6p6).1).l).map Sn.D) (zsl (((zc x3p3 x6p6).1).nl) 2) none),(33,.lsl 1 0 v6p6_0.length 2 none),(13,B false),(12,.sl (((zc x3p3 x6p6).1).nl) ((((zc x3p3 x6p6).1).l).map Sn.D) (zsl (((zc x3p3 x6p6).1).nl) 2) none),(32,B false),(31,.sl (((zc x3p3 x6p6).1).nl) ((((zc x3p3 x6p6).1).l).map Sn.D) (zsl (((zc x3p3 x6p6).1).nl) 2) none),(26,.tup [.sl (((zc x3p3 x6p6).1).nl) ((((zc x3p3 x6p6).1).l).map Sn.D) (zsl (((zc x3p3 x6p6).1).nl) 2) none,B ((zc x3p3 x6p6).2)]),(30,.tup [.sl (((zc x3p3 x6p6).1).nl) ((((zc x3p3 x6p6).1).l).map Sn.D) (zsl (((zc x3p3 x6p6).1).nl) 2) none,B ((zc x3p3 x6p6).2)]),(29,.agg [I x6p6.lo,I x6p6.hi]),(28,.agg [I x3p3.lo,I x3p3.hi]),(27,.fn (.func 97) [] []),(11,.lref 3 0 2 0),(25,.agg [I x6p6.lo,I x6p6.hi]),(24,.ptr (.agg [I x6p6.lo,I x6p6.hi])),(23,B true),(1,.sl q3p3_0.nl (q3p3_0.l.map Sn.D) (zsl q3p3_0.nl 2) none),(2,.fn (.func 97) [] []),(7,.lsl 1 0 v6p6_0.length 2 none),(9,.lref 2 0 2 0),(14,.sl a.nl (a.l.map Sn.D) (zsl a.nl 2) none),(15,I ((a.l.length:Nat):Int)),(16,I ((i3p3:Nat):Int)),(20,.sl q3p3_0.nl (q3p3_0.l.map Sn.D) (zsl q3p3_0.nl 2) none),(21,I ((q3p3_0.l.length:Nat):Int)),(22,I ((i6p6:Nat):Int))],[(2,⟨[.agg [I x3p3.lo,I x3p3.hi]],2,false⟩),(3,⟨[.agg [I x6p6.lo,I x6p6.hi]],2,false⟩),(4,⟨(v6p6_0++(((zc x3p3 x6p6).1).l)).map Sn.D,2,false⟩)],5,1⟩

inductive LR_ranges_pairs_6p6 where
 | x0 (v6p6_0:List Sn)
instance:Inhabited LR_ranges_pairs_6p6:=⟨.x0 default⟩
def yp (x3p3:Sn):List Sn→(List Sn)→LR_ranges_pairs_6p6
 | [],v6p6_0=>.x0 v6p6_0
 | x6p6::rest6p6,v6p6_0 =>
  bif (((zc x3p3 x6p6).1).l).isEmpty then
   yp x3p3 rest6p6 v6p6_0
  else
   yp x3p3 rest6p6 (v6p6_0++(((zc x3p3 x6p6).1).l))
def lr_ranges_pairs_6p6 (a:GS Sn) (i3p3:Nat) (q3p3_0:GS Sn) (x3p3:Sn):LR_ranges_pairs_6p6→Exit × St
 | .x0 v6p6_0=>((.exit 2),⟨40,[(23,B false),(1,.sl q3p3_0.nl (q3p3_0.l.map Sn.D) (zsl q3p3_0.nl 2) none),(2,.fn (.func 97) [] []),(7,.lsl 1 0 v6p6_0.length 2 none),(9,.lref 2 0 2 0),(14,.sl a.nl (a.l.map Sn.D) (zsl a.nl 2) none),(15,I ((a.l.length:Nat):Int)),(16,I ((i3p3:Nat):Int)),(20,.sl q3p3_0.nl (q3p3_0.l.map Sn.D) (zsl q3p3_0.nl 2) none),(21,I ((q3p3_0.l.length:Nat):Int)),(22,I ((q3p3_0.l.length:Nat):Int))],[(1,⟨v6p6_0.map Sn.D,2,false⟩),(2,⟨[.agg [I x3p3.lo,I x3p3.hi]],2,false⟩)],3,1⟩)
def iv_ranges_pairs_6p6 (a:GS Sn) (i3p3:Nat) (q3p3_0:GS Sn) (x3p3:Sn):LR_ranges_pairs_6p6→Prop
 | .x0 v6p6_0=>(v6p6_0.length≤65 * i3p3+q3p3_0.l.length)
theorem lp_ranges_pairs_6p6 (a:GS Sn) (i3p3:Nat) (q3p3_0:GS Sn) (x3p3:Sn):∀ (rest6p6:List Sn) (i6p6:Nat) (v6p6_0:List Sn) (hd6p6:q3p3_0.l.drop i6p6=rest6p6) (hi6p6:i6p6≤q3p3_0.l.length) (hb65:q3p3_0.l.length≤65) (ho64:i3p3 < 64) (hg6p6_v6p6_0:v6p6_0.length≤65 * i3p3+i6p6) (hL6p6:q3p3_0.l.length≤1099511627776),(lim cfg).loop 87 lp87_6 ⟨40,[(1,.sl q3p3_0.nl (q3p3_0.l.map Sn.D) (zsl q3p3_0.nl 2) none),(2,.fn (.func 97) [] []),(7,.lsl 1 0 v6p6_0.length 2 none),(9,.lref 2 0 2 0),(14,.sl a.nl (a.l.map Sn.D) (zsl a.nl 2) none),(15,I ((a.l.length:Nat):Int)),(16,I ((i3p3:Nat):Int)),(20,.sl q3p3_0.nl (q3p3_0.l.map Sn.D) (zsl q3p3_0.nl 2) none),(21,I ((q3p3_0.l.length:Nat):Int)),(22,I ((i6p6:Nat):Int))],[(1,⟨v6p6_0.map Sn.D,2,false⟩),(2,⟨[.agg [I x3p3.lo,I x3p3.hi]],2,false⟩)],3,1⟩=some (lr_ranges_pairs_6p6 a i3p3 q3p3_0 x3p3 (yp x3p3 rest6p6 v6p6_0)):=by
 intro rest6p6
 induction rest6p6 with
 | nil =>
  intro i6p6 v6p6_0 hd6p6 hi6p6 hb65 ho64 hg6p6_v6p6_0 hL6p6
  unfold yp
  obtain rfl:i6p6=q3p3_0.l.length:=yC hd6p6 hi6p6
  exact zP [.dec false] (Ai (lt_no hd6p6) trivial) (by kernel_rfl)
 | cons x6p6 rest6p6 ih =>
  intro i6p6 v6p6_0 hd6p6 hi6p6 hb65 ho64 hg6p6_v6p6_0 hL6p6
  have hlt6p6:=zl hd6p6
  have hlx:=minus1_len x3p3 x6p6
  unfold yp
  cases h11:(((zc x3p3 x6p6).1).l).isEmpty with
  | true =>
   exact yg (ks:=[1,2,7,9,14,15,16,20,21,22]) (st':=(sd144 a i3p3 q3p3_0 x3p3 i6p6 x6p6 v6p6_0)) [.dec true,.el (.agg [I x6p6.lo,I x6p6.hi]),.pure (.tup [.sl (((zc x3p3 x6p6).1).nl) ((((zc x3p3 x6p6).1).l).map Sn.D) (zsl (((zc x3p3 x6p6).1).nl) 2) none,B ((zc x3p3 x6p6).2)]),.dec false,.op (some 35) ⟨.lsl 1 0 v6p6_0.length 2 none,[],[],4⟩,.rw 37 (I ((i6p6+1:Nat):Int))] (Ai (yE (i:=i6p6) (by have:=zl hd6p6; omega)) (Ai (app_none (te:=yw) (gO:=zF [(1,⟨v6p6_0.map Sn.D,2,false⟩),(2,⟨[.agg [I x3p3.lo,I x3p3.hi]],2,false⟩),(3,⟨[.agg [I x6p6.lo,I x6p6.hi]],2,false⟩)]) (nxt:=4) (f:=Sn.D) (sz:=2) (d:=.lsl 1 0 v6p6_0.length 2 none) ((zc x3p3 x6p6).1) h11 rfl) (Ai (show ((zc x3p3 x6p6).2)=false from rfl) (Ai (T_ranges_Minus_1 x3p3 x6p6) (Ai (el_at (s:=q3p3_0) (f:=Sn.D) (k:=2) hd6p6) (Ai (lt_at hd6p6) trivial)))))) (by kernel_rfl) (by (simp only [sd144,go_sem,List.length_set,Nat.reduceAdd,Nat.reduceEqDiff,Nat.reduceLT,Nat.reduceLeDiff,bI2,zf.idsL,zf.renL,zf.snapAll,z7.idsL,z7.renL,z7.snapAll]) <;> rfl) (ih (i6p6+1) v6p6_0 (zr hd6p6) (zl hd6p6) (by omega) (by omega) (by omega) (by omega)) (by kernel_rfl)
  | false =>
   exact yg (ks:=[1,2,7,9,14,15,16,20,21,22]) (st':=(sd145 a i3p3 q3p3_0 x3p3 i6p6 x6p6 v6p6_0)) [.dec true,.el (.agg [I x6p6.lo,I x6p6.hi]),.pure (.tup [.sl (((zc x3p3 x6p6).1).nl) ((((zc x3p3 x6p6).1).l).map Sn.D) (zsl (((zc x3p3 x6p6).1).nl) 2) none,B ((zc x3p3 x6p6).2)]),.dec false,.op (some 35) ⟨.lsl 4 0 ((v6p6_0++(((zc x3p3 x6p6).1).l)).length) 2 none,[(1,none),(4,some ⟨(v6p6_0++(((zc x3p3 x6p6).1).l)).map Sn.D,2,false⟩)],[1],5⟩,.rw 37 (I ((i6p6+1:Nat):Int))] (Ai (yE (i:=i6p6) (by have:=zl hd6p6; omega)) (Ai (app_moreD (te:=yw) (gO:=zF [(1,⟨v6p6_0.map Sn.D,2,false⟩),(2,⟨[.agg [I x3p3.lo,I x3p3.hi]],2,false⟩),(3,⟨[.agg [I x6p6.lo,I x6p6.hi]],2,false⟩)]) (nxt:=4) (o:=1) (v:=v6p6_0) z7 ((zc x3p3 x6p6).1) h11 (by kernel_rfl) rfl (by kernel_rfl) (by decide) ⟨by simp only [yw,big] <;> (first | assumption | omega | (exact yh (by omega) (by omega)) | (exact zT (by omega)) | (exact zK (by omega)) | (exact zU (by omega)) | (exact zM (by omega)) | (exact zB _ (by omega)) | (simp only [zo] at * <;> omega) | (simp only [zG,GS.some_l,List.length_set,List.length_append,List.length_cons,List.length_nil] at * <;> first | with_reducible assumption | omega) | (simp only [zG,GS.some_l,List.length_set,List.length_append,List.length_cons,List.length_nil,zo] at * <;> first | with_reducible assumption | omega) | (simp at * <;> omega)),by simp only [big] <;> (first | assumption | omega | (exact yh (by omega) (by omega)) | (exact zT (by omega)) | (exact zK (by omega)) | (exact zU (by omega)) | (exact zM (by omega)) | (exact zB _ (by omega)) | (simp only [zo] at * <;> omega) | (simp only [zG,GS.some_l,List.length_set,List.length_append,List.length_cons,List.length_nil] at * <;> first | with_reducible assumption | omega) | (simp only [zG,GS.some_l,List.length_set,List.length_append,List.length_cons,List.length_nil,zo] at * <;> first | with_reducible assumption | omega) | (simp at * <;> omega))⟩) (Ai (show ((zc x3p3 x6p6).2)=false from rfl) (Ai (T_ranges_Minus_1 x3p3 x6p6) (Ai (el_at (s:=q3p3_0) (f:=Sn.D) (k:=2) hd6p6) (Ai (lt_at hd6p6) trivial)))))) (by kernel_rfl) (by (simp only [sd145,go_sem,List.length_set,Nat.reduceAdd,Nat.reduceEqDiff,Nat.reduceLT,Nat.reduceLeDiff,bI2,zf.idsL,zf.renL,zf.snapAll,z7.idsL,z7.renL,z7.snapAll]) <;> rfl) (ih (i6p6+1) (v6p6_0++(((zc x3p3 x6p6).1).l)) (zr hd6p6) (zl hd6p6) (by omega) (by omega) (by simp only [List.length_append,List.length_cons,List.length_nil] at * <;> omega) (by omega)) (by kernel_rfl)
theorem ivt_ranges_pairs_6p6 (a:GS Sn) (i3p3:Nat) (q3p3_0:GS Sn) (x3p3:Sn):∀ (rest6p6:List Sn) (i6p6:Nat) (v6p6_0:List Sn) (hd6p6:q3p3_0.l.drop i6p6=rest6p6) (hi6p6:i6p6≤q3p3_0.l.length) (hb65:q3p3_0.l.length≤65) (ho64:i3p3 < 64) (hg6p6_v6p6_0:v6p6_0.length≤65 * i3p3+i6p6) (hL6p6:q3p3_0.l.length≤1099511627776),iv_ranges_pairs_6p6 a i3p3 q3p3_0 x3p3 (yp x3p3 rest6p6 v6p6_0):=by
 intro rest6p6
 induction rest6p6 with
 | nil =>
  intro i6p6 v6p6_0 hd6p6 hi6p6 hb65 ho64 hg6p6_v6p6_0 hL6p6
  unfold yp
  obtain rfl:i6p6=q3p3_0.l.length:=yC hd6p6 hi6p6
  exact hg6p6_v6p6_0
 | cons x6p6 rest6p6 ih =>
  intro i6p6 v6p6_0 hd6p6 hi6p6 hb65 ho64 hg6p6_v6p6_0 hL6p6
  have hlt6p6:=zl hd6p6
  have hlx:=minus1_len x3p3 x6p6
  unfold yp
  cases h11:(((zc x3p3 x6p6).1).l).isEmpty with
  | true =>
   exact ih (i6p6+1) v6p6_0 (zr hd6p6) (zl hd6p6) (by omega) (by omega) (by omega) (by omega)
  | false =>
   exact ih (i6p6+1) (v6p6_0++(((zc x3p3 x6p6).1).l)) (zr hd6p6) (zl hd6p6) (by omega) (by omega) (by simp only [List.length_append,List.length_cons,List.length_nil] at * <;> omega) (by omega)

def sd147 (a:GS Sn) (i3p3:Nat) (q3p3_0:GS Sn) (x3p3:Sn) (i6p7:Nat) (x6p7:Sn) (va6p7_0:List Sn):St:=⟨40,[(22,I ((i6p7+1:Nat):Int)),(37,I ((i6p7+1:Nat):Int)),(36,B false),(7,.lsl 1 0 va6p7_0.length 2 none),(35,.lsl 1 0 va6p7_0.length 2 none),(34,.sl (((zc x3p3 x6p7).1).nl) ((((zc x3p3 x6p7).1).l).map Sn.D) (zsl (((zc x3p3 x6p7).1).nl) 2) none),(33,.lsl 1 0 va6p7_0.length 2 none),(13,B false),(12,.sl (((zc x3p3 x6p7).1).nl) ((((zc x3p3 x6p7).1).l).map Sn.D) (zsl (((zc x3p3 x6p7).1).nl) 2) none),(32,B false),(31,.sl (((zc x3p3 x6p7).1).nl) ((((zc x3p3 x6p7).1).l).map Sn.D) (zsl (((zc x3p3 x6p7).1).nl) 2) none),(26,.tup [.sl (((zc x3p3 x6p7).1).nl) ((((zc x3p3 x6p7).1).l).map Sn.D) (zsl (((zc x3p3 x6p7).1).nl) 2) none,B ((zc x3p3 x6p7).2)]),(30,.tup [.sl (((zc x3p3 x6p7).1).nl) ((((zc x3p3 x6p7).1).l).map Sn.D) (zsl (((zc x3p3 x6p7).1).nl) 2) none,B ((zc x3p3 x6p7).2)]),(29,.agg [I x6p7.lo,I x6p7.hi]),(28,.agg [I x3p3.lo,I x3p3.hi]),(27,.fn (.func 97) [] []),(11,.lref 3 0 2 0),(25,.agg [I x6p7.lo,I x6p7.hi]),(24,.ptr (.agg [I x6p7.lo,I x6p7.hi])),(23,B true),(1,.sl q3p3_0.nl (q3p3_0.l.map Sn.D) (zsl q3p3_0.nl 2) none),(2,.fn (.func 97) [] []),(7,.lsl 1 0 va6p7_0.length 2 none),(9,.lref 2 0 2 0),(14,.sl a.nl (a.l.map Sn.D) (zsl a.nl 2) none),(15,I ((a.l.length:Nat):Int)),(16,I ((i3p3:Nat):Int)),(20,.sl q3p3_0.nl (q3p3_0.l.map Sn.D) (zsl q3p3_0.nl 2) none),(21,I ((q3p3_0.l.length:Nat):Int)),(22,I ((i6p7:Nat):Int))],[(1,⟨va6p7_0.map Sn.D,2,false⟩),(2,⟨[.agg [I x3p3.lo,I x3p3.hi]],2,false⟩),(3,⟨[.agg [I x6p7.lo,I x6p7.hi]],2,false⟩)],4,1⟩

def sd148 (a:GS Sn) (i3p3:Nat) (q3p3_0:GS Sn) (x3p3:Sn) (i6p7:Nat) (x6p7:Sn) (va6p7_0:List Sn):St:=⟨40,[(22,I ((i6p7+1:Nat):Int)),(37,I ((i6p7+1:Nat):Int)),(36,B false),(7,.lsl 4 0 ((va6p7_0++(((zc x3p3 x6p7).1).l)).length) 2 none),(35,.lsl 4 0 ((va6p7_0++(((zc x3p3 x6p7).1).l)).length) 2 none),(34,.sl (((zc x3p3 x6p7).1).nl) ((((zc x3p3 x6p7).1).l).map Sn.D) (zsl (((zc x3p3 x6p7).1).nl) 2) none),(33,.lsl 1 0 va6p7_0.length 2 none),(13,B false),(12,.sl (((zc x3p3 x6p7).1).nl) ((((zc x3p3 x6p7).1).l).map Sn.D) (zsl (((zc x3p3 x6p7).1).nl) 2) none),(32,B false),(31,.sl (((zc x3p3 x6p7).1).nl) ((((zc x3p3 x6p7).1).l).map Sn.D) (zsl (((zc x3p3 x6p7).1).nl) 2) none),(26,.tup [.sl (((zc x3p3 x6p7).1).nl) ((((zc x3p3 x6p7).1).l).map Sn.D) (zsl (((zc x3p3 x6p7).1).nl) 2) none,B ((zc x3p3 x6p7).2)]),(30,.tup [.sl (((zc x3p3 x6p7).1).nl) ((((zc x3p3 x6p7).1).l).map Sn.D) (zsl (((zc x3p3 x6p7).1).nl) 2) none,B ((zc x3p3 x6p7).2)]),(29,.agg [I x6p7.lo,I x6p7.hi]),(28,.agg [I x3p3.lo,I x3p3.hi]),(27,.fn (.func 97) [] []),(11,.lref 3 0 2 0),(25,.agg [I x6p7.lo,I x6p7.hi]),(24,.ptr (.agg [I x6p7.lo,I x6p7.hi])),(23,B true),(1,.sl q3p3_0.nl (q3p3_0.l.map Sn.D) (zsl q3p3_0.nl 2) none),(2,.fn (.func 97) [] []),(7,.lsl 1 0 va6p7_0.length 2 none),(9,.lref 2 0 2 0),(14,.sl a.nl (a.l.map Sn.D) (zsl a.nl 2) none),(15,I ((a.l.length:Nat):Int)),(16,I ((i3p3:Nat):Int)),(20,.sl q3p3_0.nl (q3p3_0.l.map Sn.D) (zsl q3p3_0.nl 2) none),(21,I ((q3p3_0.l.length:Nat):Int)),(22,I ((i6p7:Nat):Int))],[(2,⟨[.agg [I x3p3.lo,I x3p3.hi]],2,false⟩),(3,⟨[.agg [I x6p7.lo,I x6p7.hi]],2,false⟩),(4,⟨(va6p7_0++(((zc x3p3 x6p7).1).l)).map Sn.D,2,false⟩)],5,1⟩

def sd149 (a:GS Sn) (i3p3:Nat) (q3p3_0:GS Sn) (x3p3:Sn) (i6p7:Nat) (x6p7:Sn):St:=⟨40,[(22,I ((i6p7+1:Nat):Int)),(37,I ((i6p7+1:Nat):Int)),(36,B false),(7,.lsl 3 0 ((((zc x3p3 x6p7).1).l).length) 2 none),(35,.lsl 3 0 ((((zc x3p3 x6p7).1).l).length) 2 none),(34,.sl (((zc x3p3 x6p7).1).nl) ((((zc x3p3 x6p7).1).l).map Sn.D) (zsl (((zc x3p3 x6p7).1).nl) 2) none),(33,.sl true [] 0 none),(13,B false),(12,.sl (((zc x3p3 x6p7).1).nl) ((((zc x3p3 x6p7).1).l).map Sn.D) (zsl (((zc x3p3 x6p7).1).nl) 2) none),(32,B false),(31,.sl (((zc x3p3 x6p7).1).nl) ((((zc x3p3 x6p7).1).l).map Sn.D) (zsl (((zc x3p3 x6p7).1).nl) 2) none),(26,.tup [.sl (((zc x3p3 x6p7).1).nl) ((((zc x3p3 x6p7).1).l).map Sn.D) (zsl (((zc x3p3 x6p7).1).nl) 2) none,B ((zc x3p3 x6p7).2)]),(30,.tup [.sl (((zc x3p3 x6p7).1).nl) ((((zc x3p3 x6p7).1).l).map Sn.D) (zsl (((zc x3p3 x6p7).1).nl) 2) none,B ((zc x3p3 x6p7).2)]),(29,.agg [I x6p7.lo,I x6p7.hi]),(28,.agg [I x3p3.lo,I x3p3.hi]),(27,.fn (.func 97) [] []),(11,.lref 2 0 2 0),(25,.agg [I x6p7.lo,I x6p7.hi]),(24,.ptr (.agg [I x6p7.lo,I x6p7.hi])),(23,B true),(1,.sl q3p3_0.nl (q3p3_0.l.map Sn.D) (zsl q3p3_0.nl 2) none),(2,.fn (.func 97) [] []),(7,.sl true [] 0 none),(9,.lref 1 0 2 0),(14,.sl a.nl (a.l.map Sn.D) (zsl a.nl 2) none),(15,I ((a.l.length:Nat):Int)),(16,I ((i3p3:Nat):Int)),(20,.sl q3p3_0.nl (q3p3_0.l.map Sn.D) (zsl q3p3_0.nl 2) none),(21,I ((q3p3_0.l.length:Nat):Int)),(22,I ((i6p7:Nat):Int))],[(1,⟨[.agg [I x3p3.lo,I x3p3.hi]],2,false⟩),(2,⟨[.agg [I x6p7.lo,I x6p7.hi]],2,false⟩),(3,⟨(((zc x3p3 x6p7).1).l).map Sn.D,2,false⟩)],4,1⟩

inductive LR_ranges_pairs_6p7 where
 | x0 (va6p7_0:List Sn)
 | x1
instance:Inhabited LR_ranges_pairs_6p7:=⟨.x0 default⟩
def yy (x3p3:Sn):List Sn→(List Sn)→LR_ranges_pairs_6p7
 | [],va6p7_0=>.x0 va6p7_0
 | x6p7::rest6p7,va6p7_0 =>
  bif (((zc x3p3 x6p7).1).l).isEmpty then
   yy x3p3 rest6p7 va6p7_0
  else
   yy x3p3 rest6p7 (va6p7_0++(((zc x3p3 x6p7).1).l))
def ranges_pairs_6p7 (x3p3:Sn):List Sn→LR_ranges_pairs_6p7
 | []=>.x1
 | x6p7::rest6p7 =>
  bif (((zc x3p3 x6p7).1).l).isEmpty then
   ranges_pairs_6p7 x3p3 rest6p7
  else
   yy x3p3 rest6p7 (((zc x3p3 x6p7).1).l)
def lr_ranges_pairs_6p7 (a:GS Sn) (i3p3:Nat) (q3p3_0:GS Sn) (x3p3:Sn):LR_ranges_pairs_6p7→Exit × St
 | .x0 va6p7_0=>((.exit 2),⟨40,[(23,B false),(1,.sl q3p3_0.nl (q3p3_0.l.map Sn.D) (zsl q3p3_0.nl 2) none),(2,.fn (.func 97) [] []),(7,.lsl 1 0 va6p7_0.length 2 none),(9,.lref 2 0 2 0),(14,.sl a.nl (a.l.map Sn.D) (zsl a.nl 2) none),(15,I ((a.l.length:Nat):Int)),(16,I ((i3p3:Nat):Int)),(20,.sl q3p3_0.nl (q3p3_0.l.map Sn.D) (zsl q3p3_0.nl 2) none),(21,I ((q3p3_0.l.length:Nat):Int)),(22,I ((q3p3_0.l.length:Nat):Int))],[(1,⟨va6p7_0.map Sn.D,2,false⟩),(2,⟨[.agg [I x3p3.lo,I x3p3.hi]],2,false⟩)],3,1⟩)
 | .x1=>((.exit 2),⟨40,[(23,B false),(1,.sl q3p3_0.nl (q3p3_0.l.map Sn.D) (zsl q3p3_0.nl 2) none),(2,.fn (.func 97) [] []),(7,.sl true [] 0 none),(9,.lref 1 0 2 0),(14,.sl a.nl (a.l.map Sn.D) (zsl a.nl 2) none),(15,I ((a.l.length:Nat):Int)),(16,I ((i3p3:Nat):Int)),(20,.sl q3p3_0.nl (q3p3_0.l.map Sn.D) (zsl q3p3_0.nl 2) none),(21,I ((q3p3_0.l.length:Nat):Int)),(22,I ((q3p3_0.l.length:Nat):Int))],[(1,⟨[.agg [I x3p3.lo,I x3p3.hi]],2,false⟩)],2,1⟩)
def iv_ranges_pairs_6p7 (a:GS Sn) (i3p3:Nat) (q3p3_0:GS Sn) (x3p3:Sn):LR_ranges_pairs_6p7→Prop
 | .x0 va6p7_0=>(va6p7_0.length≤65 * i3p3+q3p3_0.l.length)
 | .x1=>True
theorem lp_ranges_pairs_6p7a (a:GS Sn) (i3p3:Nat) (q3p3_0:GS Sn) (x3p3:Sn):∀ (rest6p7:List Sn) (i6p7:Nat) (va6p7_0:List Sn) (hd6p7:q3p3_0.l.drop i6p7=rest6p7) (hi6p7:i6p7≤q3p3_0.l.length) (hb65:q3p3_0.l.length≤65) (ho64:i3p3 < 64) (hg6p7_va6p7_0:va6p7_0.length≤65 * i3p3+i6p7) (hL6p7:q3p3_0.l.length≤1099511627776),(lim cfg).loop 87 lp87_6 ⟨40,[(1,.sl q3p3_0.nl (q3p3_0.l.map Sn.D) (zsl q3p3_0.nl 2) none),(2,.fn (.func 97) [] []),(7,.lsl 1 0 va6p7_0.length 2 none),(9,.lref 2 0 2 0),(14,.sl a.nl (a.l.map Sn.D) (zsl a.nl 2) none),(15,I ((a.l.length:Nat):Int)),(16,I ((i3p3:Nat):Int)),(20,.sl q3p3_0.nl (q3p3_0.l.map Sn.D) (zsl q3p3_0.nl 2) none),(21,I ((q3p3_0.l.length:Nat):Int)),(22,I ((i6p7:Nat):Int))],[(1,⟨va6p7_0.map Sn.D,2,false⟩),(2,⟨[.agg [I x3p3.lo,I x3p3.hi]],2,false⟩)],3,1⟩=some (lr_ranges_pairs_6p7 a i3p3 q3p3_0 x3p3 (yy x3p3 rest6p7 va6p7_0)):=by
 intro rest6p7
 induction rest6p7 with
 | nil =>
  intro i6p7 va6p7_0 hd6p7 hi6p7 hb65 ho64 hg6p7_va6p7_0 hL6p7
  unfold yy
  obtain rfl:i6p7=q3p3_0.l.length:=yC hd6p7 hi6p7
  exact zP [.dec false] (Ai (lt_no hd6p7) trivial) (by kernel_rfl)
 | cons x6p7 rest6p7 ih =>
  intro i6p7 va6p7_0 hd6p7 hi6p7 hb65 ho64 hg6p7_va6p7_0 hL6p7
  have hlt6p7:=zl hd6p7
  have hlx:=minus1_len x3p3 x6p7
  unfold yy
  cases h15:(((zc x3p3 x6p7).1).l).isEmpty with
  | true =>
   exact yg (ks:=[1,2,7,9,14,15,16,20,21,22]) (st':=(sd147 a i3p3 q3p3_0 x3p3 i6p7 x6p7 va6p7_0)) [.dec true,.el (.agg [I x6p7.lo,I x6p7.hi]),.pure (.tup [.sl (((zc x3p3 x6p7).1).nl) ((((zc x3p3 x6p7).1).l).map Sn.D) (zsl (((zc x3p3 x6p7).1).nl) 2) none,B ((zc x3p3 x6p7).2)]),.dec false,.op (some 35) ⟨.lsl 1 0 va6p7_0.length 2 none,[],[],4⟩,.rw 37 (I ((i6p7+1:Nat):Int))] (Ai (yE (i:=i6p7) (by have:=zl hd6p7; omega)) (Ai (app_none (te:=yw) (gO:=zF [(1,⟨va6p7_0.map Sn.D,2,false⟩),(2,⟨[.agg [I x3p3.lo,I x3p3.hi]],2,false⟩),(3,⟨[.agg [I x6p7.lo,I x6p7.hi]],2,false⟩)]) (nxt:=4) (f:=Sn.D) (sz:=2) (d:=.lsl 1 0 va6p7_0.length 2 none) ((zc x3p3 x6p7).1) h15 rfl) (Ai (show ((zc x3p3 x6p7).2)=false from rfl) (Ai (T_ranges_Minus_1 x3p3 x6p7) (Ai (el_at (s:=q3p3_0) (f:=Sn.D) (k:=2) hd6p7) (Ai (lt_at hd6p7) trivial)))))) (by kernel_rfl) (by (simp only [sd147,go_sem,List.length_set,Nat.reduceAdd,Nat.reduceEqDiff,Nat.reduceLT,Nat.reduceLeDiff,bI2,zf.idsL,zf.renL,zf.snapAll,z7.idsL,z7.renL,z7.snapAll]) <;> rfl) (ih (i6p7+1) va6p7_0 (zr hd6p7) (zl hd6p7) (by omega) (by omega) (by omega) (by omega)) (by kernel_rfl)
  | false =>
   exact yg (ks:=[1,2,7,9,14,15,16,20,21,22]) (st':=(sd148 a i3p3 q3p3_0 x3p3 i6p7 x6p7 va6p7_0)) [.dec true,.el (.agg [I x6p7.lo,I x6p7.hi]),.pure (.tup [.sl (((zc x3p3 x6p7).1).nl) ((((zc x3p3 x6p7).1).l).map Sn.D) (zsl (((zc x3p3 x6p7).1).nl) 2) none,B ((zc x3p3 x6p7).2)]),.dec false,.op (some 35) ⟨.lsl 4 0 ((va6p7_0++(((zc x3p3 x6p7).1).l)).length) 2 none,[(1,none),(4,some ⟨(va6p7_0++(((zc x3p3 x6p7).1).l)).map Sn.D,2,false⟩)],[1],5⟩,.rw 37 (I ((i6p7+1:Nat):Int))] (Ai (yE (i:=i6p7) (by have:=zl hd6p7; omega)) (Ai (app_moreD (te:=yw) (gO:=zF [(1,⟨va6p7_0.map Sn.D,2,false⟩),(2,⟨[.agg [I x3p3.lo,I x3p3.hi]],2,false⟩),(3,⟨[.agg [I x6p7.lo,I x6p7.hi]],2,false⟩)]) (nxt:=4) (o:=1) (v:=va6p7_0) z7 ((zc x3p3 x6p7).1) h15 (by kernel_rfl) rfl (by kernel_rfl) (by decide) ⟨by simp only [yw,big] <;> (first | assumption | omega | (exact yh (by omega) (by omega)) | (exact zT (by omega)) | (exact zK (by omega)) | (exact zU (by omega)) | (exact zM (by omega)) | (exact zB _ (by omega)) | (simp only [zo] at * <;> omega) | (simp only [zG,GS.some_l,List.length_set,List.length_append,List.length_cons,List.length_nil] at * <;> first | with_reducible assumption | omega) | (simp only [zG,GS.some_l,List.length_set,List.length_append,List.length_cons,List.length_nil,zo] at * <;> first | with_reducible assumption | omega) | (simp at * <;> omega)),by simp only [big] <;> (first | assumption | omega | (exact yh (by omega) (by omega)) | (exact zT (by omega)) | (exact zK (by omega)) | (exact zU (by omega)) | (exact zM (by omega)) | (exact zB _ (by omega)) | (simp only [zo] at * <;> omega) | (simp only [zG,GS.some_l,List.length_set,List.length_append,List.length_cons,List.length_nil] at * <;> first | with_reducible assumption | omega) | (simp only [zG,GS.some_l,List.length_set,List.length_append,List.length_cons,List.length_nil,zo] at * <;> first | with_reducible assumption | omega) | (simp at * <;> omega))⟩) (Ai (show ((zc x3p3 x6p7).2)=false from rfl) (Ai (T_ranges_Minus_1 x3p3 x6p7) (Ai (el_at (s:=q3p3_0) (f:=Sn.D) (k:=2) hd6p7) (Ai (lt_at hd6p7) trivial)))))) (by kernel_rfl) (by (simp only [sd148,go_sem,List.length_set,Nat.reduceAdd,Nat.reduceEqDiff,Nat.reduceLT,Nat.reduceLeDiff,bI2,zf.idsL,zf.renL,zf.snapAll,z7.idsL,z7.renL,z7.snapAll]) <;> rfl) (ih (i6p7+1) (va6p7_0++(((zc x3p3 x6p7).1).l)) (zr hd6p7) (zl hd6p7) (by omega) (by omega) (by simp only [List.length_append,List.length_cons,List.length_nil] at * <;> omega) (by omega)) (by kernel_rfl)
theorem ivt_ranges_pairs_6p7a (a:GS Sn) (i3p3:Nat) (q3p3_0:GS Sn) (x3p3:Sn):∀ (rest6p7:List Sn) (i6p7:Nat) (va6p7_0:List Sn) (hd6p7:q3p3_0.l.drop i6p7=rest6p7) (hi6p7:i6p7≤q3p3_0.l.length) (hb65:q3p3_0.l.length≤65) (ho64:i3p3 < 64) (hg6p7_va6p7_0:va6p7_0.length≤65 * i3p3+i6p7) (hL6p7:q3p3_0.l.length≤1099511627776),iv_ranges_pairs_6p7 a i3p3 q3p3_0 x3p3 (yy x3p3 rest6p7 va6p7_0):=by
 intro rest6p7
 induction rest6p7 with
 | nil =>
  intro i6p7 va6p7_0 hd6p7 hi6p7 hb65 ho64 hg6p7_va6p7_0 hL6p7
  unfold yy
  obtain rfl:i6p7=q3p3_0.l.length:=yC hd6p7 hi6p7
  exact hg6p7_va6p7_0
 | cons x6p7 rest6p7 ih =>
  intro i6p7 va6p7_0 hd6p7 hi6p7 hb65 ho64 hg6p7_va6p7_0 hL6p7
  have hlt6p7:=zl hd6p7
  have hlx:=minus1_len x3p3 x6p7
  unfold yy
  cases h15:(((zc x3p3 x6p7).1).l).isEmpty with
  | true =>
   exact ih (i6p7+1) va6p7_0 (zr hd6p7) (zl hd6p7) (by omega) (by omega) (by omega) (by omega)
  | false =>
   exact ih (i6p7+1) (va6p7_0++(((zc x3p3 x6p7).1).l)) (zr hd6p7) (zl hd6p7) (by omega) (by omega) (by simp only [List.length_append,List.length_cons,List.length_nil] at * <;> omega) (by omega)
theorem lp_ranges_pairs_6p7 (a:GS Sn) (i3p3:Nat) (q3p3_0:GS Sn) (x3p3:Sn):∀ (rest6p7:List Sn) (i6p7:Nat) (hd6p7:q3p3_0.l.drop i6p7=rest6p7) (hi6p7:i6p7≤q3p3_0.l.length) (hb65:q3p3_0.l.length≤65) (ho64:i3p3 < 64) (hL6p7:q3p3_0.l.length≤1099511627776),(lim cfg).loop 87 lp87_6 ⟨40,[(1,.sl q3p3_0.nl (q3p3_0.l.map Sn.D) (zsl q3p3_0.nl 2) none),(2,.fn (.func 97) [] []),(7,.sl true [] 0 none),(9,.lref 1 0 2 0),(14,.sl a.nl (a.l.map Sn.D) (zsl a.nl 2) none),(15,I ((a.l.length:Nat):Int)),(16,I ((i3p3:Nat):Int)),(20,.sl q3p3_0.nl (q3p3_0.l.map Sn.D) (zsl q3p3_0.nl 2) none),(21,I ((q3p3_0.l.length:Nat):Int)),(22,I ((i6p7:Nat):Int))],[(1,⟨[.agg [I x3p3.lo,I x3p3.hi]],2,false⟩)],2,1⟩=some (lr_ranges_pairs_6p7 a i3p3 q3p3_0 x3p3 (ranges_pairs_6p7 x3p3 rest6p7)):=by
 intro rest6p7
 induction rest6p7 with
 | nil =>
  intro i6p7 hd6p7 hi6p7 hb65 ho64 hL6p7
  unfold ranges_pairs_6p7
  obtain rfl:i6p7=q3p3_0.l.length:=yC hd6p7 hi6p7
  exact zP [.dec false] (Ai (lt_no hd6p7) trivial) (by kernel_rfl)
 | cons x6p7 rest6p7 ih =>
  intro i6p7 hd6p7 hi6p7 hb65 ho64 hL6p7
  have hlt6p7:=zl hd6p7
  have hlx:=minus1_len x3p3 x6p7
  unfold ranges_pairs_6p7
  cases h16:(((zc x3p3 x6p7).1).l).isEmpty with
  | true =>
   exact po_turn [.dec true,.el (.agg [I x6p7.lo,I x6p7.hi]),.pure (.tup [.sl (((zc x3p3 x6p7).1).nl) ((((zc x3p3 x6p7).1).l).map Sn.D) (zsl (((zc x3p3 x6p7).1).nl) 2) none,B ((zc x3p3 x6p7).2)]),.dec false,.op (some 35) ⟨.sl true [] 0 none,[],[],3⟩,.rw 37 (I ((i6p7+1:Nat):Int))] (Ai (yE (i:=i6p7) (by have:=zl hd6p7; omega)) (Ai (app_none (te:=yw) (gO:=zF [(1,⟨[.agg [I x3p3.lo,I x3p3.hi]],2,false⟩),(2,⟨[.agg [I x6p7.lo,I x6p7.hi]],2,false⟩)]) (nxt:=3) (f:=Sn.D) (sz:=2) (d:=.sl true [] 0 none) ((zc x3p3 x6p7).1) h16 rfl) (Ai (show ((zc x3p3 x6p7).2)=false from rfl) (Ai (T_ranges_Minus_1 x3p3 x6p7) (Ai (el_at (s:=q3p3_0) (f:=Sn.D) (k:=2) hd6p7) (Ai (lt_at hd6p7) trivial)))))) (ih (i6p7+1) (zr hd6p7) (zl hd6p7) (by omega) (by omega) (by omega)) (by kernel_rfl)
  | false =>
   exact yg (ks:=[1,2,7,9,14,15,16,20,21,22]) (st':=(sd149 a i3p3 q3p3_0 x3p3 i6p7 x6p7)) [.dec true,.el (.agg [I x6p7.lo,I x6p7.hi]),.pure (.tup [.sl (((zc x3p3 x6p7).1).nl) ((((zc x3p3 x6p7).1).l).map Sn.D) (zsl (((zc x3p3 x6p7).1).nl) 2) none,B ((zc x3p3 x6p7).2)]),.dec false,.op (some 35) ⟨.lsl 3 0 ((((zc x3p3 x6p7).1).l).length) 2 none,[(3,some ⟨(((zc x3p3 x6p7).1).l).map Sn.D,2,false⟩)],[],4⟩,.rw 37 (I ((i6p7+1:Nat):Int))] (Ai (yE (i:=i6p7) (by have:=zl hd6p7; omega)) (Ai (app_newD (te:=yw) (gO:=zF [(1,⟨[.agg [I x3p3.lo,I x3p3.hi]],2,false⟩),(2,⟨[.agg [I x6p7.lo,I x6p7.hi]],2,false⟩)]) (nxt:=3) (els0:=[]) (sz0:=0) (cap0:=none) z7 ((zc x3p3 x6p7).1) h16 rfl (by kernel_rfl) (by decide) ⟨by simp only [yw,big] <;> (first | assumption | omega | (exact yh (by omega) (by omega)) | (exact zT (by omega)) | (exact zK (by omega)) | (exact zU (by omega)) | (exact zM (by omega)) | (exact zB _ (by omega)) | (simp only [zo] at * <;> omega) | (simp only [zG,GS.some_l,List.length_set,List.length_append,List.length_cons,List.length_nil] at * <;> first | with_reducible assumption | omega) | (simp only [zG,GS.some_l,List.length_set,List.length_append,List.length_cons,List.length_nil,zo] at * <;> first | with_reducible assumption | omega) | (simp at * <;> omega)),by simp only [big] <;> (first | assumption | omega | (exact yh (by omega) (by omega)) | (exact zT (by omega)) | (exact zK (by omega)) | (exact zU (by omega)) | (exact zM (by omega)) | (exact zB _ (by omega)) | (simp only [zo] at * <;> omega) | (simp only [zG,GS.some_l,List.length_set,List.length_append,List.length_cons,List.length_nil] at * <;> first | with_reducible assumption | omega) | (simp only [zG,GS.some_l,List.length_set,List.length_append,List.length_cons,List.length_nil,zo] at * <;> first | with_reducible assumption | omega) | (simp at * <;> omega))⟩) (Ai (show ((zc x3p3 x6p7).2)=false from rfl) (Ai (T_ranges_Minus_1 x3p3 x6p7) (Ai (el_at (s:=q3p3_0) (f:=Sn.D) (k:=2) hd6p7) (Ai (lt_at hd6p7) trivial)))))) (by kernel_rfl) (by (simp only [sd149,go_sem,List.length_set,Nat.reduceAdd,Nat.reduceEqDiff,Nat.reduceLT,Nat.reduceLeDiff,bI2,zf.idsL,zf.renL,zf.snapAll,z7.idsL,z7.renL,z7.snapAll]) <;> rfl) (lp_ranges_pairs_6p7a a i3p3 q3p3_0 x3p3 _ (i6p7+1) (((zc x3p3 x6p7).1).l) (zr hd6p7) (zl hd6p7) (by omega) (by omega) (by omega) (by omega)) (by kernel_rfl)
theorem ivt_ranges_pairs_6p7 (a:GS Sn) (i3p3:Nat) (q3p3_0:GS Sn) (x3p3:Sn):∀ (rest6p7:List Sn) (i6p7:Nat) (hd6p7:q3p3_0.l.drop i6p7=rest6p7) (hi6p7:i6p7≤q3p3_0.l.length) (hb65:q3p3_0.l.length≤65) (ho64:i3p3 < 64) (hL6p7:q3p3_0.l.length≤1099511627776),iv_ranges_pairs_6p7 a i3p3 q3p3_0 x3p3 (ranges_pairs_6p7 x3p3 rest6p7):=by
 intro rest6p7
 induction rest6p7 with
 | nil =>
  intro i6p7 hd6p7 hi6p7 hb65 ho64 hL6p7
  unfold ranges_pairs_6p7
  obtain rfl:i6p7=q3p3_0.l.length:=yC hd6p7 hi6p7
  exact trivial
 | cons x6p7 rest6p7 ih =>
  intro i6p7 hd6p7 hi6p7 hb65 ho64 hL6p7
  have hlt6p7:=zl hd6p7
  have hlx:=minus1_len x3p3 x6p7
  unfold ranges_pairs_6p7
  cases h16:(((zc x3p3 x6p7).1).l).isEmpty with
  | true =>
   exact ih (i6p7+1) (zr hd6p7) (zl hd6p7) (by omega) (by omega) (by omega)
  | false =>
   exact ivt_ranges_pairs_6p7a a i3p3 q3p3_0 x3p3 _ (i6p7+1) (((zc x3p3 x6p7).1).l) (zr hd6p7) (zl hd6p7) (by omega) (by omega) (by omega) (by omega)

def sd151 (a:GS Sn) (i3p3:Nat) (q3p3_0:GS Sn) (x3p3:Sn) (v6p6_0:List Sn):St:=⟨40,[(16,I ((i3p3+1:Nat):Int)),(38,I ((i3p3+1:Nat):Int)),(23,B false),(1,.sl q3p3_0.nl (q3p3_0.l.map Sn.D) (zsl q3p3_0.nl 2) none),(2,.fn (.func 97) [] []),(7,.lsl 1 0 v6p6_0.length 2 none),(9,.lref 2 0 2 0),(14,.sl a.nl (a.l.map Sn.D) (zsl a.nl 2) none),(15,I ((a.l.length:Nat):Int)),(16,I ((i3p3:Nat):Int)),(20,.sl q3p3_0.nl (q3p3_0.l.map Sn.D) (zsl q3p3_0.nl 2) none),(21,I ((q3p3_0.l.length:Nat):Int)),(22,I ((q3p3_0.l.length:Nat):Int))],[(1,⟨v6p6_0.map Sn.D,2,false⟩),(2,⟨[.agg [I x3p3.lo,I x3p3.hi]],2,false⟩)],3,1⟩

def sd142 (a:GS Sn) (i3p3:Nat) (q3p3_0:GS Sn) (x3p3:Sn) (va3p3_0:List Sn):St:=⟨40,[(1,.sl q3p3_0.nl (q3p3_0.l.map Sn.D) (zsl q3p3_0.nl 2) none),(2,.fn (.func 97) [] []),(7,.lsl 1 0 va3p3_0.length 2 none),(9,.lref 2 0 2 0),(14,.sl a.nl (a.l.map Sn.D) (zsl a.nl 2) none),(15,I ((a.l.length:Nat):Int)),(16,I ((i3p3:Nat):Int)),(20,.sl q3p3_0.nl (q3p3_0.l.map Sn.D) (zsl q3p3_0.nl 2) none),(21,I ((q3p3_0.l.length:Nat):Int)),(22,I 0)],[(1,⟨va3p3_0.map Sn.D,2,false⟩),(2,⟨[.agg [I x3p3.lo,I x3p3.hi]],2,false⟩)],3,1⟩

def sd146 (a:GS Sn) (i3p3:Nat) (q3p3_0:GS Sn) (x3p3:Sn) (v6p6_0:List Sn):St:=⟨40,[(23,B false),(1,.sl q3p3_0.nl (q3p3_0.l.map Sn.D) (zsl q3p3_0.nl 2) none),(2,.fn (.func 97) [] []),(7,.lsl 1 0 v6p6_0.length 2 none),(9,.lref 2 0 2 0),(14,.sl a.nl (a.l.map Sn.D) (zsl a.nl 2) none),(15,I ((a.l.length:Nat):Int)),(16,I ((i3p3:Nat):Int)),(20,.sl q3p3_0.nl (q3p3_0.l.map Sn.D) (zsl q3p3_0.nl 2) none),(21,I ((q3p3_0.l.length:Nat):Int)),(22,I ((q3p3_0.l.length:Nat):Int))],[(1,⟨v6p6_0.map Sn.D,2,false⟩),(2,⟨[.agg [I x3p3.lo,I x3p3.hi]],2,false⟩)],3,1⟩

def sd141 (a:GS Sn) (i3p3:Nat) (q3p3_0:GS Sn) (x3p3:Sn) (va3p3_0:List Sn):St:=⟨40,[(22,I 0),(21,I ((q3p3_0.l.length:Nat):Int)),(20,.sl q3p3_0.nl (q3p3_0.l.map Sn.D) (zsl q3p3_0.nl 2) none),(9,.lref 2 0 2 0),(19,.agg [I x3p3.lo,I x3p3.hi]),(18,.ptr (.agg [I x3p3.lo,I x3p3.hi])),(17,B true),(1,.sl q3p3_0.nl (q3p3_0.l.map Sn.D) (zsl q3p3_0.nl 2) none),(2,.fn (.func 97) [] []),(7,.lsl 1 0 va3p3_0.length 2 none),(14,.sl a.nl (a.l.map Sn.D) (zsl a.nl 2) none),(15,I ((a.l.length:Nat):Int)),(16,I ((i3p3:Nat):Int))],[(1,⟨va3p3_0.map Sn.D,2,false⟩),(2,⟨[.agg [I x3p3.lo,I x3p3.hi]],2,false⟩)],3,1⟩

def sd152 (a:GS Sn) (i3p3:Nat) (q3p3_0:GS Sn) (x3p3:Sn) (va6p7_0:List Sn):St:=⟨40,[(16,I ((i3p3+1:Nat):Int)),(38,I ((i3p3+1:Nat):Int)),(23,B false),(1,.sl q3p3_0.nl (q3p3_0.l.map Sn.D) (zsl q3p3_0.nl 2) none),(2,.fn (.func 97) [] []),(7,.lsl 1 0 va6p7_0.length 2 none),(9,.lref 2 0 2 0),(14,.sl a.nl (a.l.map Sn.D) (zsl a.nl 2) none),(15,I ((a.l.length:Nat):Int)),(16,I ((i3p3:Nat):Int)),(20,.sl q3p3_0.nl (q3p3_0.l.map Sn.D) (zsl q3p3_0.nl 2) none),(21,I ((q3p3_0.l.length:Nat):Int)),(22,I ((q3p3_0.l.length:Nat):Int))],[(1,⟨va6p7_0.map Sn.D,2,false⟩),(2,⟨[.agg [I x3p3.lo,I x3p3.hi]],2,false⟩)],3,1⟩

def sd150 (a:GS Sn) (i3p3:Nat) (q3p3_0:GS Sn) (x3p3:Sn) (va6p7_0:List Sn):St:=⟨40,[(23,B false),(1,.sl q3p3_0.nl (q3p3_0.l.map Sn.D) (zsl q3p3_0.nl 2) none),(2,.fn (.func 97) [] []),(7,.lsl 1 0 va6p7_0.length 2 none),(9,.lref 2 0 2 0),(14,.sl a.nl (a.l.map Sn.D) (zsl a.nl 2) none),(15,I ((a.l.length:Nat):Int)),(16,I ((i3p3:Nat):Int)),(20,.sl q3p3_0.nl (q3p3_0.l.map Sn.D) (zsl q3p3_0.nl 2) none),(21,I ((q3p3_0.l.length:Nat):Int)),(22,I ((q3p3_0.l.length:Nat):Int))],[(1,⟨va6p7_0.map Sn.D,2,false⟩),(2,⟨[.agg [I x3p3.lo,I x3p3.hi]],2,false⟩)],3,1⟩

def sd138 (a:GS Sn) (i3p3:Nat) (q3p3_0:GS Sn) (x3p3:Sn):St:=⟨40,[(23,B false),(1,.sl q3p3_0.nl (q3p3_0.l.map Sn.D) (zsl q3p3_0.nl 2) none),(2,.fn (.func 97) [] []),(7,.sl true [] 0 none),(9,.lref 1 0 2 0),(14,.sl a.nl (a.l.map Sn.D) (zsl a.nl 2) none),(15,I ((a.l.length:Nat):Int)),(16,I ((i3p3:Nat):Int)),(20,.sl q3p3_0.nl (q3p3_0.l.map Sn.D) (zsl q3p3_0.nl 2) none),(21,I ((q3p3_0.l.length:Nat):Int)),(22,I ((q3p3_0.l.length:Nat):Int))],[(1,⟨[.agg [I x3p3.lo,I x3p3.hi]],2,false⟩)],2,1⟩

inductive LR_ranges_pairs_3p3 where
 | x0 (va3p3_0:List Sn)
 | x1
instance:Inhabited LR_ranges_pairs_3p3:=⟨.x0 default⟩
def ranges_pairs_3p3a (q3p3_0:GS Sn):List Sn→(List Sn)→LR_ranges_pairs_3p3
 | [],va3p3_0=>.x0 va3p3_0
 | x3p3::rest3p3,va3p3_0 =>
  match yp x3p3 q3p3_0.l va3p3_0 with
  | .x0 v6p6_0 =>
   ranges_pairs_3p3a q3p3_0 rest3p3 v6p6_0
def ranges_pairs_3p3 (q3p3_0:GS Sn):List Sn→LR_ranges_pairs_3p3
 | []=>.x1
 | x3p3::rest3p3 =>
  match ranges_pairs_6p7 x3p3 q3p3_0.l with
  | .x0 va6p7_0 =>
   ranges_pairs_3p3a q3p3_0 rest3p3 va6p7_0
  | .x1 =>
   ranges_pairs_3p3 q3p3_0 rest3p3
def lr_ranges_pairs_3p3 (a:GS Sn) (q3p3_0:GS Sn):LR_ranges_pairs_3p3→Exit × St
 | .x0 va3p3_0=>((.exit 0),⟨40,[(17,B false),(1,.sl q3p3_0.nl (q3p3_0.l.map Sn.D) (zsl q3p3_0.nl 2) none),(2,.fn (.func 97) [] []),(7,.lsl 1 0 va3p3_0.length 2 none),(14,.sl a.nl (a.l.map Sn.D) (zsl a.nl 2) none),(15,I ((a.l.length:Nat):Int)),(16,I ((a.l.length:Nat):Int))],[(1,⟨va3p3_0.map Sn.D,2,false⟩)],2,1⟩)
 | .x1=>((.exit 0),⟨40,[(17,B false),(1,.sl q3p3_0.nl (q3p3_0.l.map Sn.D) (zsl q3p3_0.nl 2) none),(2,.fn (.func 97) [] []),(7,.sl true [] 0 none),(14,.sl a.nl (a.l.map Sn.D) (zsl a.nl 2) none),(15,I ((a.l.length:Nat):Int)),(16,I ((a.l.length:Nat):Int))],[],1,1⟩)
def iv_ranges_pairs_3p3 (a:GS Sn) (q3p3_0:GS Sn):LR_ranges_pairs_3p3→Prop
 | .x0 va3p3_0=>(va3p3_0.length≤65 * a.l.length)
 | .x1=>True
theorem lp_ranges_pairs_3p3a (a:GS Sn) (q3p3_0:GS Sn):∀ (rest3p3:List Sn) (i3p3:Nat) (va3p3_0:List Sn) (hd3p3:a.l.drop i3p3=rest3p3) (hi3p3:i3p3≤a.l.length) (ha64:a.l.length≤64) (hb65:q3p3_0.l.length≤65) (hg3p3_va3p3_0:va3p3_0.length≤65 * i3p3) (hL3p3:a.l.length≤1099511627776),(lim cfg).loop 87 lp87_3 ⟨40,[(1,.sl q3p3_0.nl (q3p3_0.l.map Sn.D) (zsl q3p3_0.nl 2) none),(2,.fn (.func 97) [] []),(7,.lsl 1 0 va3p3_0.length 2 none),(14,.sl a.nl (a.l.map Sn.D) (zsl a.nl 2) none),(15,I ((a.l.length:Nat):Int)),(16,I ((i3p3:Nat):Int))],[(1,⟨va3p3_0.map Sn.D,2,false⟩)],2,1⟩=some (lr_ranges_pairs_3p3 a q3p3_0 (ranges_pairs_3p3a q3p3_0 rest3p3 va3p3_0)):=by
 intro rest3p3
 induction rest3p3 with
 | nil =>
  intro i3p3 va3p3_0 hd3p3 hi3p3 ha64 hb65 hg3p3_va3p3_0 hL3p3
  unfold ranges_pairs_3p3a
  obtain rfl:i3p3=a.l.length:=yC hd3p3 hi3p3
  exact zP [.dec false] (Ai (lt_no hd3p3) trivial) (by kernel_rfl)
 | cons x3p3 rest3p3 ih =>
  intro i3p3 va3p3_0 hd3p3 hi3p3 ha64 hb65 hg3p3_va3p3_0 hL3p3
  have hlt3p3:=zl hd3p3
  unfold ranges_pairs_3p3a
  cases h12:yp x3p3 q3p3_0.l va3p3_0 with
  | x0 v6p6_0 =>
   try dsimp only
   have hv_h12:=ivt_ranges_pairs_6p6 a i3p3 q3p3_0 x3p3 q3p3_0.l 0 va3p3_0 (List.drop_zero) (Nat.zero_le _) (by omega) (by omega) (by omega) (by omega)
   rw [h12] at hv_h12
   have hv_h12_0:=hv_h12
   try dsimp only [iv_ranges_pairs_6p6] at hv_h12_0
   exact yg (ks:=[1,2,7,14,15,16]) (st':=(sd151 a i3p3 q3p3_0 x3p3 v6p6_0)) [.dec true,.el (.agg [I x3p3.lo,I x3p3.hi]),.rw 21 (I ((q3p3_0.l.length:Nat):Int)),.gloop (sd142 a i3p3 q3p3_0 x3p3 va3p3_0) (.exit 2) (sd146 a i3p3 q3p3_0 x3p3 v6p6_0),.rw 38 (I ((i3p3+1:Nat):Int))] (Ai (yE (i:=i3p3) (by have:=zl hd3p3; omega)) (Ai (yi (q:=lr_ranges_pairs_6p6 a i3p3 q3p3_0 x3p3) (lp_ranges_pairs_6p6 a i3p3 q3p3_0 x3p3 q3p3_0.l 0 va3p3_0 (List.drop_zero) (Nat.zero_le _) (by omega) (by omega) (by omega) (by omega)) h12) (Ai (gc_of (C:=cfg) (f:=87) (a:=lp87_6) (ks:=[1,2,7,9,14,15,16,20,21,22]) (st:=(sd141 a i3p3 q3p3_0 x3p3 va3p3_0)) (st1:=(sd142 a i3p3 q3p3_0 x3p3 va3p3_0)) (by kernel_rfl) (by (simp only [sd141,sd142,go_sem,List.length_set,Nat.reduceAdd,Nat.reduceEqDiff,Nat.reduceLT,Nat.reduceLeDiff,bI2,zf.idsL,zf.renL,zf.snapAll,z7.idsL,z7.renL,z7.snapAll]) <;> rfl)) (Ai (zQ Sn.D q3p3_0) (Ai (el_at (s:=a) (f:=Sn.D) (k:=2) hd3p3) (Ai (lt_at hd3p3) trivial)))))) (by kernel_rfl) (by (simp only [sd151,go_sem,List.length_set,Nat.reduceAdd,Nat.reduceEqDiff,Nat.reduceLT,Nat.reduceLeDiff,bI2,zf.idsL,zf.renL,zf.snapAll,z7.idsL,z7.renL,z7.snapAll]) <;> rfl) (ih (i3p3+1) v6p6_0 (zr hd3p3) (zl hd3p3) (by omega) (by omega) (by omega) (by omega)) (by kernel_rfl)
theorem ivt_ranges_pairs_3p3a (a:GS Sn) (q3p3_0:GS Sn):∀ (rest3p3:List Sn) (i3p3:Nat) (va3p3_0:List Sn) (hd3p3:a.l.drop i3p3=rest3p3) (hi3p3:i3p3≤a.l.length) (ha64:a.l.length≤64) (hb65:q3p3_0.l.length≤65) (hg3p3_va3p3_0:va3p3_0.length≤65 * i3p3) (hL3p3:a.l.length≤1099511627776),iv_ranges_pairs_3p3 a q3p3_0 (ranges_pairs_3p3a q3p3_0 rest3p3 va3p3_0):=by
 intro rest3p3
 induction rest3p3 with
 | nil =>
  intro i3p3 va3p3_0 hd3p3 hi3p3 ha64 hb65 hg3p3_va3p3_0 hL3p3
  unfold ranges_pairs_3p3a
  obtain rfl:i3p3=a.l.length:=yC hd3p3 hi3p3
  exact hg3p3_va3p3_0
 | cons x3p3 rest3p3 ih =>
  intro i3p3 va3p3_0 hd3p3 hi3p3 ha64 hb65 hg3p3_va3p3_0 hL3p3
  have hlt3p3:=zl hd3p3
  unfold ranges_pairs_3p3a
  cases h12:yp x3p3 q3p3_0.l va3p3_0 with
  | x0 v6p6_0 =>
   try dsimp only
   have hv_h12:=ivt_ranges_pairs_6p6 a i3p3 q3p3_0 x3p3 q3p3_0.l 0 va3p3_0 (List.drop_zero) (Nat.zero_le _) (by omega) (by omega) (by omega) (by omega)
   rw [h12] at hv_h12
   have hv_h12_0:=hv_h12
   try dsimp only [iv_ranges_pairs_6p6] at hv_h12_0
   exact ih (i3p3+1) v6p6_0 (zr hd3p3) (zl hd3p3) (by omega) (by omega) (by omega) (by omega)
theorem lp_ranges_pairs_3p3 (a:GS Sn) (q3p3_0:GS Sn):∀ (rest3p3:List Sn) (i3p3:Nat) (hd3p3:a.l.drop i3p3=rest3p3) (hi3p3:i3p3≤a.l.length) (ha64:a.l.length≤64) (hb65:q3p3_0.l.length≤65) (hL3p3:a.l.length≤1099511627776),(lim cfg).loop 87 lp87_3 ⟨40,[(1,.sl q3p3_0.nl (q3p3_0.l.map Sn.D) (zsl q3p3_0.nl 2) none),(2,.fn (.func 97) [] []),(7,.sl true [] 0 none),(14,.sl a.nl (a.l.map Sn.D) (zsl a.nl 2) none),(15,I ((a.l.length:Nat):Int)),(16,I ((i3p3:Nat):Int))],[],1,1⟩=some (lr_ranges_pairs_3p3 a q3p3_0 (ranges_pairs_3p3 q3p3_0 rest3p3)):=by
 intro rest3p3
 induction rest3p3 with
 | nil =>
  intro i3p3 hd3p3 hi3p3 ha64 hb65 hL3p3
  unfold ranges_pairs_3p3
  obtain rfl:i3p3=a.l.length:=yC hd3p3 hi3p3
  exact zP [.dec false] (Ai (lt_no hd3p3) trivial) (by kernel_rfl)
 | cons x3p3 rest3p3 ih =>
  intro i3p3 hd3p3 hi3p3 ha64 hb65 hL3p3
  have hlt3p3:=zl hd3p3
  unfold ranges_pairs_3p3
  cases h17:ranges_pairs_6p7 x3p3 q3p3_0.l with
  | x0 va6p7_0 =>
   try dsimp only
   have hv_h17:=ivt_ranges_pairs_6p7 a i3p3 q3p3_0 x3p3 q3p3_0.l 0 (List.drop_zero) (Nat.zero_le _) (by omega) (by omega) (by omega)
   rw [h17] at hv_h17
   have hv_h17_0:=hv_h17
   try dsimp only [iv_ranges_pairs_6p7] at hv_h17_0
   exact yg (ks:=[1,2,7,14,15,16]) (st':=(sd152 a i3p3 q3p3_0 x3p3 va6p7_0)) [.dec true,.el (.agg [I x3p3.lo,I x3p3.hi]),.rw 21 (I ((q3p3_0.l.length:Nat):Int)),.loop (.exit 2) (sd150 a i3p3 q3p3_0 x3p3 va6p7_0),.rw 38 (I ((i3p3+1:Nat):Int))] (Ai (yE (i:=i3p3) (by have:=zl hd3p3; omega)) (Ai (yi (q:=lr_ranges_pairs_6p7 a i3p3 q3p3_0 x3p3) (lp_ranges_pairs_6p7 a i3p3 q3p3_0 x3p3 q3p3_0.l 0 (List.drop_zero) (Nat.zero_le _) (by omega) (by omega) (by omega)) h17) (Ai (zQ Sn.D q3p3_0) (Ai (el_at (s:=a) (f:=Sn.D) (k:=2) hd3p3) (Ai (lt_at hd3p3) trivial))))) (by kernel_rfl) (by (simp only [sd152,go_sem,List.length_set,Nat.reduceAdd,Nat.reduceEqDiff,Nat.reduceLT,Nat.reduceLeDiff,bI2,zf.idsL,zf.renL,zf.snapAll,z7.idsL,z7.renL,z7.snapAll]) <;> rfl) (lp_ranges_pairs_3p3a a q3p3_0 _ (i3p3+1) va6p7_0 (zr hd3p3) (zl hd3p3) (by omega) (by omega) (by omega) (by omega)) (by kernel_rfl)
  | x1 =>
   try dsimp only
   exact po_turn [.dec true,.el (.agg [I x3p3.lo,I x3p3.hi]),.rw 21 (I ((q3p3_0.l.length:Nat):Int)),.loop (.exit 2) (sd138 a i3p3 q3p3_0 x3p3),.rw 38 (I ((i3p3+1:Nat):Int))] (Ai (yE (i:=i3p3) (by have:=zl hd3p3; omega)) (Ai (yi (q:=lr_ranges_pairs_6p7 a i3p3 q3p3_0 x3p3) (lp_ranges_pairs_6p7 a i3p3 q3p3_0 x3p3 q3p3_0.l 0 (List.drop_zero) (Nat.zero_le _) (by omega) (by omega) (by omega)) h17) (Ai (zQ Sn.D q3p3_0) (Ai (el_at (s:=a) (f:=Sn.D) (k:=2) hd3p3) (Ai (lt_at hd3p3) trivial))))) (ih (i3p3+1) (zr hd3p3) (zl hd3p3) (by omega) (by omega) (by omega)) (by kernel_rfl)
theorem ivt_ranges_pairs_3p3 (a:GS Sn) (q3p3_0:GS Sn):∀ (rest3p3:List Sn) (i3p3:Nat) (hd3p3:a.l.drop i3p3=rest3p3) (hi3p3:i3p3≤a.l.length) (ha64:a.l.length≤64) (hb65:q3p3_0.l.length≤65) (hL3p3:a.l.length≤1099511627776),iv_ranges_pairs_3p3 a q3p3_0 (ranges_pairs_3p3 q3p3_0 rest3p3):=by
 intro rest3p3
 induction rest3p3 with
 | nil =>
  intro i3p3 hd3p3 hi3p3 ha64 hb65 hL3p3
  unfold ranges_pairs_3p3
  obtain rfl:i3p3=a.l.length:=yC hd3p3 hi3p3
  exact trivial
 | cons x3p3 rest3p3 ih =>
  intro i3p3 hd3p3 hi3p3 ha64 hb65 hL3p3
  have hlt3p3:=zl hd3p3
  unfold ranges_pairs_3p3
  cases h17:ranges_pairs_6p7 x3p3 q3p3_0.l with
  | x0 va6p7_0 =>
   try dsimp only
   have hv_h17:=ivt_ranges_pairs_6p7 a i3p3 q3p3_0 x3p3 q3p3_0.l 0 (List.drop_zero) (Nat.zero_le _) (by omega) (by omega) (by omega)
   rw [h17] at hv_h17
   have hv_h17_0:=hv_h17
   try dsimp only [iv_ranges_pairs_6p7] at hv_h17_0
   exact ivt_ranges_pairs_3p3a a q3p3_0 _ (i3p3+1) va6p7_0 (zr hd3p3) (zl hd3p3) (by omega) (by omega) (by omega) (by omega)
  | x1 =>
   try dsimp only
   exact ih (i3p3+1) (zr hd3p3) (zl hd3p3) (by omega) (by omega) (by omega)

def zm (a:GS Sn) (b:GS Sn):(GS Sn) × Int :=
 bif ((y7 (GS.some [a,b])) != 0) then
  (GS.nil,(y7 (GS.some [a,b])))
 else
  match ranges_pairs_3p3 (ze b) a.l with
  | .x0 va3p3_0 =>
   match zN (zq zp va3p3_0) 0 with
   | .x0 va4p1_0 =>
    bif decide (((va4p1_0.length:Nat):Int) > 64) then
     (GS.nil,2)
    else
     (GS.some va4p1_0,0)
   | .x1 i4p1 x4p1 va4p1_0 =>
    (GS.nil,2)
   | .x2 i4p1 x4p1 va4p1_0 =>
    (GS.nil,2)
   | .x3 =>
    (GS.nil,0)
   | .x4 i4p1 x4p1 =>
    (GS.nil,2)
   | .x5 i4p1 x4p1 =>
    (GS.nil,2)
  | .x1 =>
   (GS.nil,0)

def ranges_Minus_o1 (a:GS Sn) (b:GS Sn):List Ora:=[.pure (I (y7 (GS.some [a,b]))),.dec false,.pure (.sl ((ze b).nl) (((ze b).l).map Sn.D) (zsl ((ze b).nl) 2) none)]

def sd153 (a:GS Sn) (b:GS Sn) (va3p3_0:List Sn):St:=⟨40,[(17,B false),(1,.sl ((ze b).nl) (((ze b).l).map Sn.D) (zsl ((ze b).nl) 2) none),(2,.fn (.func 97) [] []),(7,.lsl 1 0 va3p3_0.length 2 none),(14,.sl a.nl (a.l.map Sn.D) (zsl a.nl 2) none),(15,I ((a.l.length:Nat):Int)),(16,I ((a.l.length:Nat):Int))],[(1,⟨va3p3_0.map Sn.D,2,false⟩)],2,1⟩

def sd155 (va3p3_0:List Sn):St:=⟨65,[(4,.sl true [] 0 none),(10,.lsl 1 0 va3p3_0.length 2 none),(11,I ((va3p3_0.length:Nat):Int)),(12,I 0)],[(1,⟨(zq zp va3p3_0).map Sn.D,2,false⟩)],2,2⟩

def sd156 (va3p3_0:List Sn) (va4p1_0:List Sn):St:=⟨65,[(13,B false),(4,.lsl 2 0 va4p1_0.length 2 none),(10,.lsl 1 0 va3p3_0.length 2 none),(11,I ((va3p3_0.length:Nat):Int)),(12,I (((zq zp va3p3_0).length:Nat):Int))],[(1,⟨(zq zp va3p3_0).map Sn.D,2,false⟩),(2,⟨va4p1_0.map Sn.D,2,false⟩)],3,2⟩

def sd154 (va3p3_0:List Sn):St:=⟨65,[(12,I 0),(11,I ((va3p3_0.length:Nat):Int)),(10,.lsl 1 0 va3p3_0.length 2 none),(4,.sl true [] 0 none),(9,.tup []),(8,.lsl 1 0 va3p3_0.length 2 none),(3,I 0),(2,.sl true [] 0 none),(0,.lsl 1 0 va3p3_0.length 2 none)],[(1,⟨(zq zp va3p3_0).map Sn.D,2,false⟩)],2,2⟩

def sd157 (va3p3_0:List Sn) (va4p1_0:List Sn) (i4p1:Nat) (x4p1:Sn):St:=⟨65,[(3,I 2),(2,.sl true [] 0 none),(25,B true),(24,B true),(23,B false),(22,I x4p1.hi),(21,.lref 3 0 2 1),(20,B false),(19,B false),(18,B true),(17,I x4p1.lo),(16,.lref 3 0 2 0),(6,.lref 3 0 2 0),(15,.agg [I x4p1.lo,I x4p1.hi]),(14,.lref 1 i4p1 2 0),(13,B true),(4,.lsl 2 0 va4p1_0.length 2 none),(10,.lsl 1 0 va3p3_0.length 2 none),(11,I ((va3p3_0.length:Nat):Int)),(12,I ((i4p1:Nat):Int))],[(1,⟨(zq zp va3p3_0).map Sn.D,2,false⟩),(2,⟨va4p1_0.map Sn.D,2,false⟩),(3,⟨[.agg [I x4p1.lo,I x4p1.hi]],2,false⟩)],4,2⟩

def sd158 (va3p3_0:List Sn) (va4p1_0:List Sn) (i4p1:Nat) (x4p1:Sn):St:=⟨65,[(3,I 2),(2,.sl true [] 0 none),(25,B true),(24,.tup []),(23,.tup []),(22,.tup []),(21,.tup []),(20,B true),(19,B true),(18,B false),(17,I x4p1.lo),(16,.lref 3 0 2 0),(6,.lref 3 0 2 0),(15,.agg [I x4p1.lo,I x4p1.hi]),(14,.lref 1 i4p1 2 0),(13,B true),(4,.lsl 2 0 va4p1_0.length 2 none),(10,.lsl 1 0 va3p3_0.length 2 none),(11,I ((va3p3_0.length:Nat):Int)),(12,I ((i4p1:Nat):Int))],[(1,⟨(zq zp va3p3_0).map Sn.D,2,false⟩),(2,⟨va4p1_0.map Sn.D,2,false⟩),(3,⟨[.agg [I x4p1.lo,I x4p1.hi]],2,false⟩)],4,2⟩

def sd159 (va3p3_0:List Sn):St:=⟨65,[(13,B false),(4,.sl true [] 0 none),(10,.lsl 1 0 va3p3_0.length 2 none),(11,I ((va3p3_0.length:Nat):Int)),(12,I (((zq zp va3p3_0).length:Nat):Int))],[(1,⟨(zq zp va3p3_0).map Sn.D,2,false⟩)],2,2⟩

def sd160 (va3p3_0:List Sn) (i4p1:Nat) (x4p1:Sn):St:=⟨65,[(3,I 2),(2,.sl true [] 0 none),(25,B true),(24,B true),(23,B false),(22,I x4p1.hi),(21,.lref 2 0 2 1),(20,B false),(19,B false),(18,B true),(17,I x4p1.lo),(16,.lref 2 0 2 0),(6,.lref 2 0 2 0),(15,.agg [I x4p1.lo,I x4p1.hi]),(14,.lref 1 i4p1 2 0),(13,B true),(4,.sl true [] 0 none),(10,.lsl 1 0 va3p3_0.length 2 none),(11,I ((va3p3_0.length:Nat):Int)),(12,I ((i4p1:Nat):Int))],[(1,⟨(zq zp va3p3_0).map Sn.D,2,false⟩),(2,⟨[.agg [I x4p1.lo,I x4p1.hi]],2,false⟩)],3,2⟩

def sd161 (va3p3_0:List Sn) (i4p1:Nat) (x4p1:Sn):St:=⟨65,[(3,I 2),(2,.sl true [] 0 none),(25,B true),(24,.tup []),(23,.tup []),(22,.tup []),(21,.tup []),(20,B true),(19,B true),(18,B false),(17,I x4p1.lo),(16,.lref 2 0 2 0),(6,.lref 2 0 2 0),(15,.agg [I x4p1.lo,I x4p1.hi]),(14,.lref 1 i4p1 2 0),(13,B true),(4,.sl true [] 0 none),(10,.lsl 1 0 va3p3_0.length 2 none),(11,I ((va3p3_0.length:Nat):Int)),(12,I ((i4p1:Nat):Int))],[(1,⟨(zq zp va3p3_0).map Sn.D,2,false⟩),(2,⟨[.agg [I x4p1.lo,I x4p1.hi]],2,false⟩)],3,2⟩

def sd162 (a:GS Sn) (b:GS Sn):St:=⟨40,[(17,B false),(1,.sl ((ze b).nl) (((ze b).l).map Sn.D) (zsl ((ze b).nl) 2) none),(2,.fn (.func 97) [] []),(7,.sl true [] 0 none),(14,.sl a.nl (a.l.map Sn.D) (zsl a.nl 2) none),(15,I ((a.l.length:Nat):Int)),(16,I ((a.l.length:Nat):Int))],[],1,1⟩

theorem T_ranges_Minus (a:GS Sn) (b:GS Sn) (hLa:a.l.length≤9223372036854775807) (hLb:b.l.length≤9223372036854775807) (hL_b:b.l.length≤1099511627776):(lim cfg).pure 57 [GS.D Sn.D 2 a,GS.D Sn.D 2 b]=some (.tup [GS.D Sn.D 2 ((zm a b).1),I ((zm a b).2)]):=by
 unfold zm
 have p1:=(T_ranges_check (GS.some [a,b]) (by exact yh (by omega) (by omega)) (by simp only [zG,GS.some_l,List.length_set,List.length_append,List.length_cons,List.length_nil] at * <;> first | with_reducible assumption | omega))
 cases h1:((y7 (GS.some [a,b])) != 0) with
 | true =>
  have g1:=bne_true h1
  exact zt [.pure (I (y7 (GS.some [a,b]))),.dec true] (Ai h1 (Ai p1 trivial)) (by kernel_rfl)
 | false =>
  have g1:=check2_len (bne_false h1)
  have p2:=(T_ranges_outside b (by omega) (by omega))
  cases h18:ranges_pairs_3p3 (ze b) a.l with
  | x0 va3p3_0 =>
   try dsimp only
   have hv_h18:=ivt_ranges_pairs_3p3 a (ze b) a.l 0 (List.drop_zero) (Nat.zero_le _) (by omega) (by exact zB _ (by omega)) (by omega)
   rw [h18] at hv_h18
   have hv_h18_0:=hv_h18
   try dsimp only [iv_ranges_pairs_3p3] at hv_h18_0
   have p3:=(show (lim cfg).inl 87 [.sl a.nl (a.l.map Sn.D) (zsl a.nl 2) none,.sl ((ze b).nl) (((ze b).l).map Sn.D) (zsl ((ze b).nl) 2) none,.fn (.func 97) [] []] [] 1=some (.lsl 1 0 va3p3_0.length 2 none,[(1,⟨va3p3_0.map Sn.D,2,false⟩)],2) from zy [.rw 15 (I ((a.l.length:Nat):Int)),.loop (.exit 0) (sd153 a b va3p3_0)] (Ai (yi (q:=lr_ranges_pairs_3p3 a (ze b)) (lp_ranges_pairs_3p3 a (ze b) a.l 0 (List.drop_zero) (Nat.zero_le _) (by omega) (by exact zB _ (by omega)) (by omega)) h18) (Ai (zQ Sn.D a) trivial)) (by kernel_rfl))
   cases h19:zN (zq zp va3p3_0) 0 with
   | x0 va4p1_0 =>
    try dsimp only
    have hv_h19:=ivt_ranges_gathered_4p1 va3p3_0 (zq zp va3p3_0) (zq zp va3p3_0) 0 (List.drop_zero) (Nat.zero_le _) (by simp only [zG,GS.some_l,List.length_set,List.length_append,List.length_cons,List.length_nil] at * <;> first | with_reducible assumption | omega) (by simp only [zG,GS.some_l,List.length_set,List.length_append,List.length_cons,List.length_nil] at * <;> first | with_reducible assumption | omega)
    rw [h19] at hv_h19
    obtain ⟨hv_h19_0,hv_h19_1⟩:=hv_h19
    try dsimp only [y9] at hv_h19_0
    try dsimp only [y9] at hv_h19_1
    cases h20:decide (((va4p1_0.length:Nat):Int) > 64) with
    | true =>
     have g20:=of_decide_eq_true h20
     exact zt ((ranges_Minus_o1 a b)++[.inl (.lsl 1 0 va3p3_0.length 2 none) [(1,⟨va3p3_0.map Sn.D,2,false⟩)] 2,.inlS [1] (.tup [.sl true [] 0 none,I 2]) [(1,⟨(zq zp va3p3_0).map Sn.D,2,false⟩),(2,⟨va4p1_0.map Sn.D,2,false⟩)] 3]) (Ai (Ai (show zk [(0,⟨[.sl a.nl (a.l.map Sn.D) (zsl a.nl 2) none,.sl b.nl (b.l.map Sn.D) (zsl b.nl 2) none],1,false⟩),(1,⟨va3p3_0.map Sn.D,2,false⟩)] 256 [1] []=some [1] from (by (simp only [zk,go_sem,List.length_set,Nat.reduceAdd,Nat.reduceEqDiff,Nat.reduceLT,Nat.reduceLeDiff,bI2,zf.idsL,zf.renL,zf.snapAll,z7.idsL,z7.renL,z7.snapAll]) <;> rfl)) (show (lim cfg).inl 69 [.lsl 1 0 va3p3_0.length 2 none] [(1,⟨va3p3_0.map Sn.D,2,false⟩)] 2=some (.tup [.sl true [] 0 none,I 2],[(1,⟨(zq zp va3p3_0).map Sn.D,2,false⟩),(2,⟨va4p1_0.map Sn.D,2,false⟩)],3) from zy [.inlS [1] (.tup []) [(1,⟨(zq zp va3p3_0).map Sn.D,2,false⟩)] 2,.gloop (sd155 va3p3_0) (.exit 0) (sd156 va3p3_0 va4p1_0),.dec true] (Ai h20 (Ai (yi (q:=zW va3p3_0 (zq zp va3p3_0)) (lp_ranges_gathered_4p1 va3p3_0 (zq zp va3p3_0) (zq zp va3p3_0) 0 (List.drop_zero) (Nat.zero_le _) (by simp only [zG,GS.some_l,List.length_set,List.length_append,List.length_cons,List.length_nil] at * <;> first | with_reducible assumption | omega) (by simp only [zG,GS.some_l,List.length_set,List.length_append,List.length_cons,List.length_nil] at * <;> first | with_reducible assumption | omega)) h19) (Ai (gc_of (C:=cfg) (f:=69) (a:=lp69_4) (ks:=[4,10,11,12]) (st:=(sd154 va3p3_0)) (st1:=(sd155 va3p3_0)) (by kernel_rfl) (by (simp only [sd154,sd155,go_sem,List.length_set,Nat.reduceAdd,Nat.reduceEqDiff,Nat.reduceLT,Nat.reduceLeDiff,bI2,zf.idsL,zf.renL,zf.snapAll,z7.idsL,z7.renL,z7.snapAll]) <;> rfl)) (Ai (Ai (show zk [(1,⟨va3p3_0.map Sn.D,2,false⟩)] 256 [1] []=some [1] from (by (simp only [zk,go_sem,List.length_set,Nat.reduceAdd,Nat.reduceEqDiff,Nat.reduceLT,Nat.reduceLeDiff,bI2,zf.idsL,zf.renL,zf.snapAll,z7.idsL,z7.renL,z7.snapAll]) <;> rfl)) (T_sort 1 2 none va3p3_0 (by omega))) trivial)))) (by kernel_rfl))) (Ai p3 (Ai p2 (Ai h1 (Ai p1 trivial))))) (by kernel_rfl)
    | false =>
     have g20:=of_decide_eq_false h20
     exact po_pureS ((ranges_Minus_o1 a b)++[.inl (.lsl 1 0 va3p3_0.length 2 none) [(1,⟨va3p3_0.map Sn.D,2,false⟩)] 2,.inlS [1] (.tup [.lsl 2 0 va4p1_0.length 2 none,I 0]) [(1,⟨(zq zp va3p3_0).map Sn.D,2,false⟩),(2,⟨va4p1_0.map Sn.D,2,false⟩)] 3]) [(2,.sl false (va4p1_0.map Sn.D) 2 none,[2])] (Ai (snap_row (gO:=zF [(0,⟨[.sl a.nl (a.l.map Sn.D) (zsl a.nl 2) none,.sl b.nl (b.l.map Sn.D) (zsl b.nl 2) none],1,false⟩),(1,⟨(zq zp va3p3_0).map Sn.D,2,false⟩),(2,⟨va4p1_0.map Sn.D,2,false⟩)]) (o:=2) (len:=va4p1_0.length) (cap:=none) (fz:=false) z7 va4p1_0 (by kernel_rfl) (by omega)) (Ai (Ai (show zk [(0,⟨[.sl a.nl (a.l.map Sn.D) (zsl a.nl 2) none,.sl b.nl (b.l.map Sn.D) (zsl b.nl 2) none],1,false⟩),(1,⟨va3p3_0.map Sn.D,2,false⟩)] 256 [1] []=some [1] from (by (simp only [zk,go_sem,List.length_set,Nat.reduceAdd,Nat.reduceEqDiff,Nat.reduceLT,Nat.reduceLeDiff,bI2,zf.idsL,zf.renL,zf.snapAll,z7.idsL,z7.renL,z7.snapAll]) <;> rfl)) (show (lim cfg).inl 69 [.lsl 1 0 va3p3_0.length 2 none] [(1,⟨va3p3_0.map Sn.D,2,false⟩)] 2=some (.tup [.lsl 2 0 va4p1_0.length 2 none,I 0],[(1,⟨(zq zp va3p3_0).map Sn.D,2,false⟩),(2,⟨va4p1_0.map Sn.D,2,false⟩)],3) from zy [.inlS [1] (.tup []) [(1,⟨(zq zp va3p3_0).map Sn.D,2,false⟩)] 2,.gloop (sd155 va3p3_0) (.exit 0) (sd156 va3p3_0 va4p1_0),.dec false] (Ai h20 (Ai (yi (q:=zW va3p3_0 (zq zp va3p3_0)) (lp_ranges_gathered_4p1 va3p3_0 (zq zp va3p3_0) (zq zp va3p3_0) 0 (List.drop_zero) (Nat.zero_le _) (by simp only [zG,GS.some_l,List.length_set,List.length_append,List.length_cons,List.length_nil] at * <;> first | with_reducible assumption | omega) (by simp only [zG,GS.some_l,List.length_set,List.length_append,List.length_cons,List.length_nil] at * <;> first | with_reducible assumption | omega)) h19) (Ai (gc_of (C:=cfg) (f:=69) (a:=lp69_4) (ks:=[4,10,11,12]) (st:=(sd154 va3p3_0)) (st1:=(sd155 va3p3_0)) (by kernel_rfl) (by (simp only [sd154,sd155,go_sem,List.length_set,Nat.reduceAdd,Nat.reduceEqDiff,Nat.reduceLT,Nat.reduceLeDiff,bI2,zf.idsL,zf.renL,zf.snapAll,z7.idsL,z7.renL,z7.snapAll]) <;> rfl)) (Ai (Ai (show zk [(1,⟨va3p3_0.map Sn.D,2,false⟩)] 256 [1] []=some [1] from (by (simp only [zk,go_sem,List.length_set,Nat.reduceAdd,Nat.reduceEqDiff,Nat.reduceLT,Nat.reduceLeDiff,bI2,zf.idsL,zf.renL,zf.snapAll,z7.idsL,z7.renL,z7.snapAll]) <;> rfl)) (T_sort 1 2 none va3p3_0 (by omega))) trivial)))) (by kernel_rfl))) (Ai p3 (Ai p2 (Ai h1 (Ai p1 trivial)))))) (by kernel_rfl)
   | x1 i4p1 x4p1 va4p1_0 =>
    try dsimp only
    have hv_h19:=ivt_ranges_gathered_4p1 va3p3_0 (zq zp va3p3_0) (zq zp va3p3_0) 0 (List.drop_zero) (Nat.zero_le _) (by simp only [zG,GS.some_l,List.length_set,List.length_append,List.length_cons,List.length_nil] at * <;> first | with_reducible assumption | omega) (by simp only [zG,GS.some_l,List.length_set,List.length_append,List.length_cons,List.length_nil] at * <;> first | with_reducible assumption | omega)
    rw [h19] at hv_h19
    obtain ⟨hv_h19_0,hv_h19_1⟩:=hv_h19
    try dsimp only [y9] at hv_h19_0
    try dsimp only [y9] at hv_h19_1
    exact zt ((ranges_Minus_o1 a b)++[.inl (.lsl 1 0 va3p3_0.length 2 none) [(1,⟨va3p3_0.map Sn.D,2,false⟩)] 2,.inlS [1] (.tup [.sl true [] 0 none,I 2]) [(1,⟨(zq zp va3p3_0).map Sn.D,2,false⟩),(2,⟨va4p1_0.map Sn.D,2,false⟩),(3,⟨[.agg [I x4p1.lo,I x4p1.hi]],2,false⟩)] 4]) (Ai (Ai (show zk [(0,⟨[.sl a.nl (a.l.map Sn.D) (zsl a.nl 2) none,.sl b.nl (b.l.map Sn.D) (zsl b.nl 2) none],1,false⟩),(1,⟨va3p3_0.map Sn.D,2,false⟩)] 256 [1] []=some [1] from (by (simp only [zk,go_sem,List.length_set,Nat.reduceAdd,Nat.reduceEqDiff,Nat.reduceLT,Nat.reduceLeDiff,bI2,zf.idsL,zf.renL,zf.snapAll,z7.idsL,z7.renL,z7.snapAll]) <;> rfl)) (show (lim cfg).inl 69 [.lsl 1 0 va3p3_0.length 2 none] [(1,⟨va3p3_0.map Sn.D,2,false⟩)] 2=some (.tup [.sl true [] 0 none,I 2],[(1,⟨(zq zp va3p3_0).map Sn.D,2,false⟩),(2,⟨va4p1_0.map Sn.D,2,false⟩),(3,⟨[.agg [I x4p1.lo,I x4p1.hi]],2,false⟩)],4) from zy [.inlS [1] (.tup []) [(1,⟨(zq zp va3p3_0).map Sn.D,2,false⟩)] 2,.gloop (sd155 va3p3_0) .ret (sd157 va3p3_0 va4p1_0 i4p1 x4p1)] (Ai (yi (q:=zW va3p3_0 (zq zp va3p3_0)) (lp_ranges_gathered_4p1 va3p3_0 (zq zp va3p3_0) (zq zp va3p3_0) 0 (List.drop_zero) (Nat.zero_le _) (by simp only [zG,GS.some_l,List.length_set,List.length_append,List.length_cons,List.length_nil] at * <;> first | with_reducible assumption | omega) (by simp only [zG,GS.some_l,List.length_set,List.length_append,List.length_cons,List.length_nil] at * <;> first | with_reducible assumption | omega)) h19) (Ai (gc_of (C:=cfg) (f:=69) (a:=lp69_4) (ks:=[4,10,11,12]) (st:=(sd154 va3p3_0)) (st1:=(sd155 va3p3_0)) (by kernel_rfl) (by (simp only [sd154,sd155,go_sem,List.length_set,Nat.reduceAdd,Nat.reduceEqDiff,Nat.reduceLT,Nat.reduceLeDiff,bI2,zf.idsL,zf.renL,zf.snapAll,z7.idsL,z7.renL,z7.snapAll]) <;> rfl)) (Ai (Ai (show zk [(1,⟨va3p3_0.map Sn.D,2,false⟩)] 256 [1] []=some [1] from (by (simp only [zk,go_sem,List.length_set,Nat.reduceAdd,Nat.reduceEqDiff,Nat.reduceLT,Nat.reduceLeDiff,bI2,zf.idsL,zf.renL,zf.snapAll,z7.idsL,z7.renL,z7.snapAll]) <;> rfl)) (T_sort 1 2 none va3p3_0 (by omega))) trivial))) (by kernel_rfl))) (Ai p3 (Ai p2 (Ai h1 (Ai p1 trivial))))) (by kernel_rfl)
   | x2 i4p1 x4p1 va4p1_0 =>
    try dsimp only
    have hv_h19:=ivt_ranges_gathered_4p1 va3p3_0 (zq zp va3p3_0) (zq zp va3p3_0) 0 (List.drop_zero) (Nat.zero_le _) (by simp only [zG,GS.some_l,List.length_set,List.length_append,List.length_cons,List.length_nil] at * <;> first | with_reducible assumption | omega) (by simp only [zG,GS.some_l,List.length_set,List.length_append,List.length_cons,List.length_nil] at * <;> first | with_reducible assumption | omega)
    rw [h19] at hv_h19
    obtain ⟨hv_h19_0,hv_h19_1⟩:=hv_h19
    try dsimp only [y9] at hv_h19_0
    try dsimp only [y9] at hv_h19_1
    exact zt ((ranges_Minus_o1 a b)++[.inl (.lsl 1 0 va3p3_0.length 2 none) [(1,⟨va3p3_0.map Sn.D,2,false⟩)] 2,.inlS [1] (.tup [.sl true [] 0 none,I 2]) [(1,⟨(zq zp va3p3_0).map Sn.D,2,false⟩),(2,⟨va4p1_0.map Sn.D,2,false⟩),(3,⟨[.agg [I x4p1.lo,I x4p1.hi]],2,false⟩)] 4]) (Ai (Ai (show zk [(0,⟨[.sl a.nl (a.l.map Sn.D) (zsl a.nl 2) none,.sl b.nl (b.l.map Sn.D) (zsl b.nl 2) none],1,false⟩),(1,⟨va3p3_0.map Sn.D,2,false⟩)] 256 [1] []=some [1] from (by (simp only [zk,go_sem,List.length_set,Nat.reduceAdd,Nat.reduceEqDiff,Nat.reduceLT,Nat.reduceLeDiff,bI2,zf.idsL,zf.renL,zf.snapAll,z7.idsL,z7.renL,z7.snapAll]) <;> rfl)) (show (lim cfg).inl 69 [.lsl 1 0 va3p3_0.length 2 none] [(1,⟨va3p3_0.map Sn.D,2,false⟩)] 2=some (.tup [.sl true [] 0 none,I 2],[(1,⟨(zq zp va3p3_0).map Sn.D,2,false⟩),(2,⟨va4p1_0.map Sn.D,2,false⟩),(3,⟨[.agg [I x4p1.lo,I x4p1.hi]],2,false⟩)],4) from zy [.inlS [1] (.tup []) [(1,⟨(zq zp va3p3_0).map Sn.D,2,false⟩)] 2,.gloop (sd155 va3p3_0) .ret (sd158 va3p3_0 va4p1_0 i4p1 x4p1)] (Ai (yi (q:=zW va3p3_0 (zq zp va3p3_0)) (lp_ranges_gathered_4p1 va3p3_0 (zq zp va3p3_0) (zq zp va3p3_0) 0 (List.drop_zero) (Nat.zero_le _) (by simp only [zG,GS.some_l,List.length_set,List.length_append,List.length_cons,List.length_nil] at * <;> first | with_reducible assumption | omega) (by simp only [zG,GS.some_l,List.length_set,List.length_append,List.length_cons,List.length_nil] at * <;> first | with_reducible assumption | omega)) h19) (Ai (gc_of (C:=cfg) (f:=69) (a:=lp69_4) (ks:=[4,10,11,12]) (st:=(sd154 va3p3_0)) (st1:=(sd155 va3p3_0)) (by kernel_rfl) (by (simp only [sd154,sd155,go_sem,List.length_set,Nat.reduceAdd,Nat.reduceEqDiff,Nat.reduceLT,Nat.reduceLeDiff,bI2,zf.idsL,zf.renL,zf.snapAll,z7.idsL,z7.renL,z7.snapAll]) <;> rfl)) (Ai (Ai (show zk [(1,⟨va3p3_0.map Sn.D,2,false⟩)] 256 [1] []=some [1] from (by (simp only [zk,go_sem,List.length_set,Nat.reduceAdd,Nat.reduceEqDiff,Nat.reduceLT,Nat.reduceLeDiff,bI2,zf.idsL,zf.renL,zf.snapAll,z7.idsL,z7.renL,z7.snapAll]) <;> rfl)) (T_sort 1 2 none va3p3_0 (by omega))) trivial))) (by kernel_rfl))) (Ai p3 (Ai p2 (Ai h1 (Ai p1 trivial))))) (by kernel_rfl)
   | x3 =>
    try dsimp only
    exact zt ((ranges_Minus_o1 a b)++[.inl (.lsl 1 0 va3p3_0.length 2 none) [(1,⟨va3p3_0.map Sn.D,2,false⟩)] 2,.inlS [1] (.tup [.sl true [] 0 none,I 0]) [(1,⟨(zq zp va3p3_0).map Sn.D,2,false⟩)] 2]) (Ai (Ai (show zk [(0,⟨[.sl a.nl (a.l.map Sn.D) (zsl a.nl 2) none,.sl b.nl (b.l.map Sn.D) (zsl b.nl 2) none],1,false⟩),(1,⟨va3p3_0.map Sn.D,2,false⟩)] 256 [1] []=some [1] from (by (simp only [zk,go_sem,List.length_set,Nat.reduceAdd,Nat.reduceEqDiff,Nat.reduceLT,Nat.reduceLeDiff,bI2,zf.idsL,zf.renL,zf.snapAll,z7.idsL,z7.renL,z7.snapAll]) <;> rfl)) (show (lim cfg).inl 69 [.lsl 1 0 va3p3_0.length 2 none] [(1,⟨va3p3_0.map Sn.D,2,false⟩)] 2=some (.tup [.sl true [] 0 none,I 0],[(1,⟨(zq zp va3p3_0).map Sn.D,2,false⟩)],2) from zy [.inlS [1] (.tup []) [(1,⟨(zq zp va3p3_0).map Sn.D,2,false⟩)] 2,.gloop (sd155 va3p3_0) (.exit 0) (sd159 va3p3_0),.dec false] (Ai (Eq.refl false) (Ai (yi (q:=zW va3p3_0 (zq zp va3p3_0)) (lp_ranges_gathered_4p1 va3p3_0 (zq zp va3p3_0) (zq zp va3p3_0) 0 (List.drop_zero) (Nat.zero_le _) (by simp only [zG,GS.some_l,List.length_set,List.length_append,List.length_cons,List.length_nil] at * <;> first | with_reducible assumption | omega) (by simp only [zG,GS.some_l,List.length_set,List.length_append,List.length_cons,List.length_nil] at * <;> first | with_reducible assumption | omega)) h19) (Ai (gc_of (C:=cfg) (f:=69) (a:=lp69_4) (ks:=[4,10,11,12]) (st:=(sd154 va3p3_0)) (st1:=(sd155 va3p3_0)) (by kernel_rfl) (by (simp only [sd154,sd155,go_sem,List.length_set,Nat.reduceAdd,Nat.reduceEqDiff,Nat.reduceLT,Nat.reduceLeDiff,bI2,zf.idsL,zf.renL,zf.snapAll,z7.idsL,z7.renL,z7.snapAll]) <;> rfl)) (Ai (Ai (show zk [(1,⟨va3p3_0.map Sn.D,2,false⟩)] 256 [1] []=some [1] from (by (simp only [zk,go_sem,List.length_set,Nat.reduceAdd,Nat.reduceEqDiff,Nat.reduceLT,Nat.reduceLeDiff,bI2,zf.idsL,zf.renL,zf.snapAll,z7.idsL,z7.renL,z7.snapAll]) <;> rfl)) (T_sort 1 2 none va3p3_0 (by omega))) trivial)))) (by kernel_rfl))) (Ai p3 (Ai p2 (Ai h1 (Ai p1 trivial))))) (by kernel_rfl)
   | x4 i4p1 x4p1 =>
    try dsimp only
    exact zt ((ranges_Minus_o1 a b)++[.inl (.lsl 1 0 va3p3_0.length 2 none) [(1,⟨va3p3_0.map Sn.D,2,false⟩)] 2,.inlS [1] (.tup [.sl true [] 0 none,I 2]) [(1,⟨(zq zp va3p3_0).map Sn.D,2,false⟩),(2,⟨[.agg [I x4p1.lo,I x4p1.hi]],2,false⟩)] 3]) (Ai (Ai (show zk [(0,⟨[.sl a.nl (a.l.map Sn.D) (zsl a.nl 2) none,.sl b.nl (b.l.map Sn.D) (zsl b.nl 2) none],1,false⟩),(1,⟨va3p3_0.map Sn.D,2,false⟩)] 256 [1] []=some [1] from (by (simp only [zk,go_sem,List.length_set,Nat.reduceAdd,Nat.reduceEqDiff,Nat.reduceLT,Nat.reduceLeDiff,bI2,zf.idsL,zf.renL,zf.snapAll,z7.idsL,z7.renL,z7.snapAll]) <;> rfl)) (show (lim cfg).inl 69 [.lsl 1 0 va3p3_0.length 2 none] [(1,⟨va3p3_0.map Sn.D,2,false⟩)] 2=some (.tup [.sl true [] 0 none,I 2],[(1,⟨(zq zp va3p3_0).map Sn.D,2,false⟩),(2,⟨[.agg [I x4p1.lo,I x4p1.hi]],2,false⟩)],3) from zy [.inlS [1] (.tup []) [(1,⟨(zq zp va3p3_0).map Sn.D,2,false⟩)] 2,.gloop (sd155 va3p3_0) .ret (sd160 va3p3_0 i4p1 x4p1)] (Ai (yi (q:=zW va3p3_0 (zq zp va3p3_0)) (lp_ranges_gathered_4p1 va3p3_0 (zq zp va3p3_0) (zq zp va3p3_0) 0 (List.drop_zero) (Nat.zero_le _) (by simp only [zG,GS.some_l,List.length_set,List.length_append,List.length_cons,List.length_nil] at * <;> first | with_reducible assumption | omega) (by simp only [zG,GS.some_l,List.length_set,List.length_append,List.length_cons,List.length_nil] at * <;> first | with_reducible assumption | omega)) h19) (Ai (gc_of (C:=cfg) (f:=69) (a:=lp69_4) (ks:=[4,10,11,12]) (st:=(sd154 va3p3_0)) (st1:=(sd155 va3p3_0)) (by kernel_rfl) (by (simp only [sd154,sd155,go_sem,List.length_set,Nat.reduceAdd,Nat.reduceEqDiff,Nat.reduceLT,Nat.reduceLeDiff,bI2,zf.idsL,zf.renL,zf.snapAll,z7.idsL,z7.renL,z7.snapAll]) <;> rfl)) (Ai (Ai (show zk [(1,⟨va3p3_0.map Sn.D,2,false⟩)] 256 [1] []=some [1] from (by (simp only [zk,go_sem,List.length_set,Nat.reduceAdd,Nat.reduceEqDiff,Nat.reduceLT,Nat.reduceLeDiff,bI2,zf.idsL,zf.renL,zf.snapAll,z7.idsL,z7.renL,z7.snapAll]) <;> rfl)) (T_sort 1 2 none va3p3_0 (by omega))) trivial))) (by kernel_rfl))) (Ai p3 (Ai p2 (Ai h1 (Ai p1 trivial))))) (by kernel_rfl)
   | x5 i4p1 x4p1 =>
    try dsimp only
    exact zt ((ranges_Minus_o1 a b)++[.inl (.lsl 1 0 va3p3_0.length 2 none) [(1,⟨va3p3_0.map Sn.D,2,false⟩)] 2,.inlS [1] (.tup [.sl true [] 0 none,I 2]) [(1,⟨(zq zp va3p3_0).map Sn.D,2,false⟩),(2,⟨[.agg [I x4p1.lo,I x4p1.hi]],2,false⟩)] 3]) (Ai (Ai (show zk [(0,⟨[.sl a.nl (a.l.map Sn.D) (zsl a.nl 2) none,.sl b.nl (b.l.map Sn.D) (zsl b.nl 2) none],1,false⟩),(1,⟨va3p3_0.map Sn.D,2,false⟩)] 256 [1] []=some [1] from (by (simp only [zk,go_sem,List.length_set,Nat.reduceAdd,Nat.reduceEqDiff,Nat.reduceLT,Nat.reduceLeDiff,bI2,zf.idsL,zf.renL,zf.snapAll,z7.idsL,z7.renL,z7.snapAll]) <;> rfl)) (show (lim cfg).inl 69 [.lsl 1 0 va3p3_0.length 2 none] [(1,⟨va3p3_0.map Sn.D,2,false⟩)] 2=some (.tup [.sl true [] 0 none,I 2],[(1,⟨(zq zp va3p3_0).map Sn.D,2,false⟩),(2,⟨[.agg [I x4p1.lo,I x4p1.hi]],2,false⟩)],3) from zy [.inlS [1] (.tup []) [(1,⟨(zq zp va3p3_0).map Sn.D,2,false⟩)] 2,.gloop (sd155 va3p3_0) .ret (sd161 va3p3_0 i4p1 x4p1)] (Ai (yi (q:=zW va3p3_0 (zq zp va3p3_0)) (lp_ranges_gathered_4p1 va3p3_0 (zq zp va3p3_0) (zq zp va3p3_0) 0 (List.drop_zero) (Nat.zero_le _) (by simp only [zG,GS.some_l,List.length_set,List.length_append,List.length_cons,List.length_nil] at * <;> first | with_reducible assumption | omega) (by simp only [zG,GS.some_l,List.length_set,List.length_append,List.length_cons,List.length_nil] at * <;> first | with_reducible assumption | omega)) h19) (Ai (gc_of (C:=cfg) (f:=69) (a:=lp69_4) (ks:=[4,10,11,12]) (st:=(sd154 va3p3_0)) (st1:=(sd155 va3p3_0)) (by kernel_rfl) (by (simp only [sd154,sd155,go_sem,List.length_set,Nat.reduceAdd,Nat.reduceEqDiff,Nat.reduceLT,Nat.reduceLeDiff,bI2,zf.idsL,zf.renL,zf.snapAll,z7.idsL,z7.renL,z7.snapAll]) <;> rfl)) (Ai (Ai (show zk [(1,⟨va3p3_0.map Sn.D,2,false⟩)] 256 [1] []=some [1] from (by (simp only [zk,go_sem,List.length_set,Nat.reduceAdd,Nat.reduceEqDiff,Nat.reduceLT,Nat.reduceLeDiff,bI2,zf.idsL,zf.renL,zf.snapAll,z7.idsL,z7.renL,z7.snapAll]) <;> rfl)) (T_sort 1 2 none va3p3_0 (by omega))) trivial))) (by kernel_rfl))) (Ai p3 (Ai p2 (Ai h1 (Ai p1 trivial))))) (by kernel_rfl)
  | x1 =>
   try dsimp only
   exact zt ((ranges_Minus_o1 a b)++[.inl (.sl true [] 0 none) [] 1,.inl (.tup [.sl true [] 0 none,I 0]) [] 1]) (Ai (show (lim cfg).inl 69 [.sl true [] 0 none] [] 1=some (.tup [.sl true [] 0 none,I 0],[],1) from zy [.inl (.tup []) [] 1,.loop (.exit 0) ⟨65,[(13,B false),(4,.sl true [] 0 none),(10,.sl true [] 0 none),(11,I 0),(12,I 0)],[],1,1⟩,.dec false] (Ai (Eq.refl false) (Ai (show (lim cfg).loop 69 lp69_4 ⟨65,[(4,.sl true [] 0 none),(10,.sl true [] 0 none),(11,I 0),(12,I 0)],[],1,1⟩=some ((.exit 0),⟨65,[(13,B false),(4,.sl true [] 0 none),(10,.sl true [] 0 none),(11,I 0),(12,I 0)],[],1,1⟩) from (zP [.dec false] (Ai (Eq.refl false) trivial) (by kernel_rfl))) (Ai (T_sort_nil 1) trivial))) (by kernel_rfl)) (Ai (show (lim cfg).inl 87 [.sl a.nl (a.l.map Sn.D) (zsl a.nl 2) none,.sl ((ze b).nl) (((ze b).l).map Sn.D) (zsl ((ze b).nl) 2) none,.fn (.func 97) [] []] [] 1=some (.sl true [] 0 none,[],1) from zy [.rw 15 (I ((a.l.length:Nat):Int)),.loop (.exit 0) (sd162 a b)] (Ai (yi (q:=lr_ranges_pairs_3p3 a (ze b)) (lp_ranges_pairs_3p3 a (ze b) a.l 0 (List.drop_zero) (Nat.zero_le _) (by omega) (by exact zB _ (by omega)) (by omega)) h18) (Ai (zQ Sn.D a) trivial)) (by kernel_rfl)) (Ai p2 (Ai h1 (Ai p1 trivial))))) (by kernel_rfl)
end Go.VS

namespace Go.VS
open Go Go.Proofs
set_option maxHeartbeats 0
set_option linter.unusedSimpArgs false
set_option linter.unusedVariables false
def zO (x:Sn) (by_:Int):(GS Sn) :=
 (zj (w64 (x.lo+by_)) (w64 (x.hi+by_)))

theorem shift1_len (x:Sn) (by_:Int):(zO x by_).l.length≤1:=some1 _ _

inductive LR_ranges_each_3p1 where
 | x0 (vc3p1_0:List Sn)
 | x1 (va3p1_0:List Sn)
 | x2
 | x3
instance:Inhabited LR_ranges_each_3p1:=⟨.x0 default⟩
def yz (by_:Int):List Sn→(List Sn)→LR_ranges_each_3p1
 | [],vc3p1_0=>.x0 vc3p1_0
 | x3p1::rest3p1,vc3p1_0 =>
  bif (zO x3p1 by_).nl then
   bif ((zO x3p1 by_).l).isEmpty then
    yz by_ rest3p1 vc3p1_0
   else
    yz by_ rest3p1 (vc3p1_0++((zO x3p1 by_).l))
  else
   bif ((zO x3p1 by_).l).isEmpty then
    yz by_ rest3p1 vc3p1_0
   else
    yz by_ rest3p1 (vc3p1_0++((zO x3p1 by_).l))
def ranges_each_3p1a (by_:Int):List Sn→(List Sn)→LR_ranges_each_3p1
 | [],va3p1_0=>.x1 va3p1_0
 | x3p1::rest3p1,va3p1_0 =>
  bif (zO x3p1 by_).nl then
   bif ((zO x3p1 by_).l).isEmpty then
    ranges_each_3p1a by_ rest3p1 va3p1_0
   else
    ranges_each_3p1a by_ rest3p1 (va3p1_0++((zO x3p1 by_).l))
  else
   bif ((zO x3p1 by_).l).isEmpty then
    yz by_ rest3p1 va3p1_0
   else
    yz by_ rest3p1 (va3p1_0++((zO x3p1 by_).l))
def ranges_each_3p1b (by_:Int):List Sn→LR_ranges_each_3p1
 | []=>.x2
 | x3p1::rest3p1 =>
  bif (zO x3p1 by_).nl then
   bif ((zO x3p1 by_).l).isEmpty then
    ranges_each_3p1b by_ rest3p1
   else
    yz by_ rest3p1 ((zO x3p1 by_).l)
  else
   bif ((zO x3p1 by_).l).isEmpty then
    ranges_each_3p1b by_ rest3p1
   else
    yz by_ rest3p1 ((zO x3p1 by_).l)
def ranges_each_3p1 (by_:Int):List Sn→LR_ranges_each_3p1
 | []=>.x3
 | x3p1::rest3p1 =>
  bif (zO x3p1 by_).nl then
   bif ((zO x3p1 by_).l).isEmpty then
    ranges_each_3p1 by_ rest3p1
   else
    ranges_each_3p1a by_ rest3p1 ((zO x3p1 by_).l)
  else
   bif ((zO x3p1 by_).l).isEmpty then
    ranges_each_3p1b by_ rest3p1
   else
    yz by_ rest3p1 ((zO x3p1 by_).l)
def ranges_Shift (r:GS Sn) (by_:Int):(GS Sn) × Int :=
 bif ((y6 r) != 0) then
  (GS.nil,(y6 r))
 else
  bif decide (((r.l.length:Nat):Int) > 0) then
   bif (ranges_in by_ (-2199023255552) 2199023255552) then
    match ranges_each_3p1 by_ r.l with
    | .x0 vc3p1_0 =>
     match zN (zq zp vc3p1_0) 0 with
     | .x0 va4p1_0 =>
      bif decide (((va4p1_0.length:Nat):Int) > 64) then
       (GS.nil,2)
      else
       (GS.some va4p1_0,0)
     | .x1 i4p1 x4p1 va4p1_0 =>
      (GS.nil,2)
     | .x2 i4p1 x4p1 va4p1_0 =>
      (GS.nil,2)
     | .x3 =>
      (GS.nil,0)
     | .x4 i4p1 x4p1 =>
      (GS.nil,2)
     | .x5 i4p1 x4p1 =>
      (GS.nil,2)
    | .x1 va3p1_0 =>
     match zN (zq zp va3p1_0) 0 with
     | .x0 va4p1_0 =>
      bif decide (((va4p1_0.length:Nat):Int) > 64) then
       (GS.nil,2)
      else
       (GS.some va4p1_0,0)
     | .x1 i4p1 x4p1 va4p1_0 =>
      (GS.nil,2)
     | .x2 i4p1 x4p1 va4p1_0 =>
      (GS.nil,2)
     | .x3 =>
      (GS.nil,0)
     | .x4 i4p1 x4p1 =>
      (GS.nil,2)
     | .x5 i4p1 x4p1 =>
      (GS.nil,2)
    | .x2 =>
     (GS.nil,0)
    | .x3 =>
     (GS.nil,0)
   else
    (GS.nil,2)
  else
   match ranges_each_3p1 by_ r.l with
   | .x0 vc3p1_0 =>
    match zN (zq zp vc3p1_0) 0 with
    | .x0 va4p1_0 =>
     bif decide (((va4p1_0.length:Nat):Int) > 64) then
      (GS.nil,2)
     else
      (GS.some va4p1_0,0)
    | .x1 i4p1 x4p1 va4p1_0 =>
     (GS.nil,2)
    | .x2 i4p1 x4p1 va4p1_0 =>
     (GS.nil,2)
    | .x3 =>
     (GS.nil,0)
    | .x4 i4p1 x4p1 =>
     (GS.nil,2)
    | .x5 i4p1 x4p1 =>
     (GS.nil,2)
   | .x1 va3p1_0 =>
    match zN (zq zp va3p1_0) 0 with
    | .x0 va4p1_0 =>
     bif decide (((va4p1_0.length:Nat):Int) > 64) then
      (GS.nil,2)
     else
      (GS.some va4p1_0,0)
    | .x1 i4p1 x4p1 va4p1_0 =>
     (GS.nil,2)
    | .x2 i4p1 x4p1 va4p1_0 =>
     (GS.nil,2)
    | .x3 =>
     (GS.nil,0)
    | .x4 i4p1 x4p1 =>
     (GS.nil,2)
    | .x5 i4p1 x4p1 =>
     (GS.nil,2)
   | .x2 =>
    (GS.nil,0)
   | .x3 =>
    (GS.nil,0)

end Go.VS

namespace Go.VS
open Go
set_option maxHeartbeats 0
set_option linter.unusedSimpArgs false
set_option linter.unusedVariables false
theorem getD_last {v:List Sn} {c:Sn}:(v++[c]).getD v.length default=c:=by
 rw [List.getD_eq_getElem?_getD,List.getElem?_append_right (Nat.le_refl _)]; simp
theorem set_last {v:List Sn} {c d:Sn}:(v++[c]).set v.length d=v++[d]:=by
 rw [List.set_append_right _ _ (Nat.le_refl _)]; simp
theorem len_last {v:List Sn} {c:Sn}:w64 ((((v++[c]).length:Nat):Int) - 1)=((v.length:Nat):Int) ∨ 9223372036854775807 < v.length:=by
 by_cases h:9223372036854775807 < v.length
 ·exact .inr h
 ·left
  simp only [List.length_append,List.length_cons,List.length_nil]
  rw [w64_eq (by omega) (by omega)]; omega
def ArL (l:List Sn):Prop:=∀ s∈l,Ar s.lo∧Ar s.hi

theorem ranges_gathered_4p1_ok:∀ (l:List Sn) (i:Nat) (v:List Sn) (c:Sn),ArL l→Ar c.hi→v.length+l.length≤1099511627776→yd l i (v++[c])=.x0 (v++jn c l)
 | [],i,v,c,_,_,_=>rfl
 | x::l,i,v,c,h,hc,hv=>by
  have hx:=h x List.mem_cons_self
  have h':ArL l:=fun t ht=>h t (List.mem_cons_of_mem _ ht)
  simp only [List.length_cons] at hv
  unfold yd jn
  rw [area_iff.2 hx.1,area_iff.2 hx.2]
  have hl:w64 ((((v++[c]).length:Nat):Int) - 1)=((v.length:Nat):Int):=by
   rcases len_last (v:=v) (c:=c) with e | e
   ·exact e
   ·omega
  have hp:decide ((((v++[c]).length:Nat):Int) > 0)=true:=decide_eq_true (by simp only [List.length_append,List.length_cons,List.length_nil]; omega)
  rw [hl,hp,Int.toNat_natCast,getD_last,set_last]
  unfold Ar at hc
  have hx2:=hx.2
  unfold Ar at hx2
  rw [w64_eq (n:=c.hi+1) (by omega) (by omega),imax_eq]
  by_cases hle:x.lo≤c.hi+1
  ·rw [decide_eq_true hle,if_pos hle]
   exact ranges_gathered_4p1_ok l (i+1) v ⟨c.lo,max c.hi x.hi⟩ h' (by unfold Ar; simp only; omega) (by omega)
  ·rw [decide_eq_false hle,if_neg hle]
   have:=ranges_gathered_4p1_ok l (i+1) (v++[c]) x h' hx.2 (by simp only [List.length_append,List.length_cons,List.length_nil]; omega)
   simp only [cond_true,cond_false]
   rw [this,List.append_assoc]; rfl
def ranges_gathered_4p1_er:LR_ranges_gathered_4p1→Bool
 | .x1 _ _ _=>true
 | .x2 _ _ _=>true
 | .x4 _ _=>true
 | .x5 _ _=>true
 | _=>false
theorem ranges_gathered_4p1_bad:∀ (l:List Sn) (i:Nat) (v:List Sn),¬ ArL l→ranges_gathered_4p1_er (yd l i v)=true
 | [],i,v,h=>absurd (fun s hs=>by cases hs) h
 | x::l,i,v,h=>by
  unfold yd
  cases h1:zn x.lo with
  | false=>rfl
  | true =>
   cases h2:zn x.hi with
   | false=>rfl
   | true =>
    have h':¬ ArL l:=fun k=>h fun s hs=>by
     rcases List.mem_cons.1 hs with rfl | hs
     ·exact ⟨area_iff.1 h1,area_iff.1 h2⟩
     ·exact k s hs
    have ih:=fun v=>ranges_gathered_4p1_bad l (i+1) v h'
    simp only [cond_true]
    cases decide (((v.length:Nat):Int) > 0) with
    | false=>exact ih _
    | true =>
     simp only [cond_true]
     cases decide (x.lo≤w64 ((v.getD ((w64 (((v.length:Nat):Int) - 1)).toNat) default).hi+1)) <;> exact ih _
theorem ranges_gathered_4p1_at {l:List Sn} (hne:l ≠ []) (hl:l.length≤1099511627776):(ArL l∧zN (zq zp l) 0=.x0 (can zp l)) ∨ (¬ ArL l∧ranges_gathered_4p1_er (zN (zq zp l) 0)=true):=by
 have hp:=srtG_perm gcmp_lo l
 have hlen:=srtG_len gcmp_lo l
 have har:ArL (zq zp l)↔ArL l:=⟨fun h s hs=>h s (hp.mem_iff.2 hs),fun h s hs=>h s (hp.mem_iff.1 hs)⟩
 rw [← har]
 unfold can
 have hne':zq zp l ≠ []:=fun h=>hne (by rw [h] at hp; exact List.nil_perm.1 hp)
 generalize zq zp l=q at *
 cases q with
 | nil=>exact absurd rfl hne'
 | cons c q =>
  simp only [List.length_cons] at hlen
  unfold zN jnL
  dsimp only
  by_cases hc:Ar c.lo∧Ar c.hi
  ·rw [area_iff.2 hc.1,area_iff.2 hc.2]
   by_cases hq:ArL q
   ·left
    refine ⟨fun s hs=>?_,?_⟩
    ·rcases List.mem_cons.1 hs with rfl | hs
     ·exact hc
     ·exact hq s hs
    ·exact ranges_gathered_4p1_ok q 1 [] c hq hc.2 (by simp; omega)
   ·right
    exact ⟨fun h=>hq fun s hs=>h s (List.mem_cons_of_mem _ hs),ranges_gathered_4p1_bad q 1 [c] hq⟩
  ·right
   refine ⟨fun h=>hc (h c List.mem_cons_self),?_⟩
   cases h1:zn c.lo with
   | false=>rfl
   | true =>
    cases h2:zn c.hi with
    | false=>rfl
    | true=>exact absurd ⟨area_iff.1 h1,area_iff.1 h2⟩ hc

end Go.VS

namespace Go.VS
open Go
set_option maxHeartbeats 0
theorem flat_cons_emp {α:Type} {f:α→List Sn} {x:α} {l:List α} (h:(f x).isEmpty=true):(x::l).flatMap f=l.flatMap f:=by
 have:f x=[]:=by simpa using h
 rw [List.flatMap_cons,this]; rfl

def yk (x y:Sn):List Sn:=((zb x y).1).l
theorem ranges_pairs_6p4_eq (x:Sn):∀ (l v:List Sn),yo x l v=.x0 (v++l.flatMap (yk x))
 | [],v=>by simp [yo]
 | y::l,v=>by
  unfold yo
  rw [emp_app (fun z=>yo x l z),ranges_pairs_6p4_eq x l _,List.flatMap_cons,List.append_assoc]; rfl
theorem ranges_pairs_6p5a_eq (x:Sn):∀ (l v:List Sn),yx x l v=.x0 (v++l.flatMap (yk x))
 | [],v=>by simp [yx]
 | y::l,v=>by
  unfold yx
  rw [emp_app (fun z=>yx x l z),ranges_pairs_6p5a_eq x l _,List.flatMap_cons,List.append_assoc]; rfl
theorem ranges_pairs_6p5_eq (x:Sn):∀ (l:List Sn),(l.flatMap (yk x)=[]∧ranges_pairs_6p5 x l=.x1) ∨ (l.flatMap (yk x) ≠ []∧ranges_pairs_6p5 x l=.x0 (l.flatMap (yk x)))
 | []=>.inl ⟨rfl,rfl⟩
 | y::l=>by
  unfold ranges_pairs_6p5
  cases h:(((zb x y).1).l).isEmpty with
  | true =>
   rw [flat_cons_emp (f:=yk x) h]
   exact ranges_pairs_6p5_eq x l
  | false =>
   right
   simp only [cond_false]
   rw [ranges_pairs_6p5a_eq,List.flatMap_cons]
   refine ⟨fun k=>?_,rfl⟩
   have:=(List.append_eq_nil_iff.1 k).1
   have h2:((zb x y).1).l=[]:=this
   rw [h2] at h; cases h
theorem ranges_pairs_3p2a_eq (b:GS Sn):∀ (l v:List Sn),ranges_pairs_3p2a b l v=.x0 (v++pairsL l b.l yk)
 | [],v=>by simp [ranges_pairs_3p2a,pairsL]
 | x::l,v=>by
  unfold ranges_pairs_3p2a
  rw [ranges_pairs_6p4_eq]
  dsimp only
  rw [ranges_pairs_3p2a_eq b l _,List.append_assoc]; rfl
theorem ranges_pairs_3p2_eq (b:GS Sn):∀ (l:List Sn),(pairsL l b.l yk=[]∧ranges_pairs_3p2 b l=.x1) ∨ (pairsL l b.l yk ≠ []∧ranges_pairs_3p2 b l=.x0 (pairsL l b.l yk))
 | []=>.inl ⟨rfl,rfl⟩
 | x::l=>by
  unfold ranges_pairs_3p2
  have e:pairsL (x::l) b.l yk=b.l.flatMap (yk x)++pairsL l b.l yk:=rfl
  rw [e]
  rcases ranges_pairs_6p5_eq x b.l with ⟨h1,h2⟩ | ⟨h1,h2⟩ <;> rw [h2] <;> dsimp only
  ·rw [h1]
   exact ranges_pairs_3p2_eq b l
  ·right
   rw [ranges_pairs_3p2a_eq]
   exact ⟨fun k=>h1 (List.append_eq_nil_iff.1 k).1,rfl⟩

def yq (x y:Sn):List Sn:=((zc x y).1).l
theorem ranges_pairs_6p6_eq (x:Sn):∀ (l v:List Sn),yp x l v=.x0 (v++l.flatMap (yq x))
 | [],v=>by simp [yp]
 | y::l,v=>by
  unfold yp
  rw [emp_app (fun z=>yp x l z),ranges_pairs_6p6_eq x l _,List.flatMap_cons,List.append_assoc]; rfl
theorem ranges_pairs_6p7a_eq (x:Sn):∀ (l v:List Sn),yy x l v=.x0 (v++l.flatMap (yq x))
 | [],v=>by simp [yy]
 | y::l,v=>by
  unfold yy
  rw [emp_app (fun z=>yy x l z),ranges_pairs_6p7a_eq x l _,List.flatMap_cons,List.append_assoc]; rfl
theorem ranges_pairs_6p7_eq (x:Sn):∀ (l:List Sn),(l.flatMap (yq x)=[]∧ranges_pairs_6p7 x l=.x1) ∨ (l.flatMap (yq x) ≠ []∧ranges_pairs_6p7 x l=.x0 (l.flatMap (yq x)))
 | []=>.inl ⟨rfl,rfl⟩
 | y::l=>by
  unfold ranges_pairs_6p7
  cases h:(((zc x y).1).l).isEmpty with
  | true =>
   rw [flat_cons_emp (f:=yq x) h]
   exact ranges_pairs_6p7_eq x l
  | false =>
   right
   simp only [cond_false]
   rw [ranges_pairs_6p7a_eq,List.flatMap_cons]
   refine ⟨fun k=>?_,rfl⟩
   have:=(List.append_eq_nil_iff.1 k).1
   have h2:((zc x y).1).l=[]:=this
   rw [h2] at h; cases h
theorem ranges_pairs_3p3a_eq (b:GS Sn):∀ (l v:List Sn),ranges_pairs_3p3a b l v=.x0 (v++pairsL l b.l yq)
 | [],v=>by simp [ranges_pairs_3p3a,pairsL]
 | x::l,v=>by
  unfold ranges_pairs_3p3a
  rw [ranges_pairs_6p6_eq]
  dsimp only
  rw [ranges_pairs_3p3a_eq b l _,List.append_assoc]; rfl
theorem ranges_pairs_3p3_eq (b:GS Sn):∀ (l:List Sn),(pairsL l b.l yq=[]∧ranges_pairs_3p3 b l=.x1) ∨ (pairsL l b.l yq ≠ []∧ranges_pairs_3p3 b l=.x0 (pairsL l b.l yq))
 | []=>.inl ⟨rfl,rfl⟩
 | x::l=>by
  unfold ranges_pairs_3p3
  have e:pairsL (x::l) b.l yq=b.l.flatMap (yq x)++pairsL l b.l yq:=rfl
  rw [e]
  rcases ranges_pairs_6p7_eq x b.l with ⟨h1,h2⟩ | ⟨h1,h2⟩ <;> rw [h2] <;> dsimp only
  ·rw [h1]
   exact ranges_pairs_3p3_eq b l
  ·right
   rw [ranges_pairs_3p3a_eq]
   exact ⟨fun k=>h1 (List.append_eq_nil_iff.1 k).1,rfl⟩

end Go.VS

namespace Go.VS
open Go
set_option maxHeartbeats 0
def GR (l:List Sn) (res:GS Sn × Int):Prop:=(ArL l∧(can zp l).length≤64∧res.1.l=can zp l∧res.2=0) ∨ ((¬ ArL l ∨ 64 < (can zp l).length)∧res=(GS.nil,2))
theorem can_nil:can zp []=[]:=by
 have:zq zp []=[]:=List.length_eq_zero_iff.1 (by rw [srtG_len gcmp_lo]; rfl)
 unfold can; rw [this]; rfl
theorem GR_nil:GR [] (GS.nil,0):=.inl ⟨(fun s hs=>by cases hs),by rw [can_nil]; simp,by rw [can_nil]; rfl,rfl⟩
theorem GR_end {l:List Sn} (h:ArL l):GR l (bif decide ((((can zp l).length:Nat):Int) > 64) then (GS.nil,2) else (GS.some (can zp l),0)):=by
 cases hd:decide ((((can zp l).length:Nat):Int) > 64) with
 | true=>have:=of_decide_eq_true hd; exact .inr ⟨.inr (by omega),rfl⟩
 | false=>have:=of_decide_eq_false hd; exact .inl ⟨h,by omega,rfl,rfl⟩
theorem pairs_congr {a b:List Sn} {f g:Sn→Sn→List Sn} (h:∀ s∈a,∀ t∈b,f s t=g s t):pairsL a b f=pairsL a b g:=by
 unfold pairsL
 induction a with
 | nil=>rfl
 | cons s a ih =>
  rw [List.flatMap_cons,List.flatMap_cons,ih fun s hs=>h s (List.mem_cons_of_mem _ hs)]
  congr 1
  have hs:=h s List.mem_cons_self
  clear ih h
  induction b with
  | nil=>rfl
  | cons t b ih=>rw [List.flatMap_cons,List.flatMap_cons,hs t List.mem_cons_self,ih fun t ht=>hs t (List.mem_cons_of_mem _ ht)]
theorem pairs_small {a b:List Sn} {f:Sn→Sn→List Sn} (h:∀ s t,(f s t).length≤1) (ha:a.length≤64) (hb:b.length≤65):(pairsL a b f).length≤1099511627776:=by
 have:=pairs_len (a:=a) (b:=b) h
 have h2:a.length * b.length≤64 * 65:=Nat.mul_le_mul ha hb
 omega
def Res (S:Int→Prop) (res:GS Sn × Int):Prop:=(res.2=0∧Ok res.1.l∧Rg S res.1.l) ∨ res=(GS.nil,2)
theorem GR.res {l:List Sn} {res:GS Sn × Int} (hl:∀ s∈l,s.lo≤s.hi) (h:GR l res):Res (In l) res:=by
 rcases h with ⟨h1,h2,h3,h4⟩ | ⟨_,h⟩
 ·left
  have k:=can_rg gcmp_lo hl
  rw [h3]
  refine ⟨h4,⟨k.1,cn_bd k.1 fun x hx=>?_,h2⟩,k⟩
  obtain ⟨s,hs,a,b⟩:=(k.2 x).1 hx
  have:=h1 s hs
  unfold Ar at this
  omega
 ·exact .inr h
theorem Res.congr {S T:Int→Prop} {res:GS Sn × Int} (h:Res S res) (e:∀ x,S x↔T x):Res T res:=h.imp (fun ⟨a,b,c⟩=>⟨a,b,c.congr e⟩) id

theorem Common_gr {a b:GS Sn} (ha:Ok a.l) (hb:Ok b.l):GR (pairsL a.l b.l comF) (zh a b):=by
 have hbo:b.l=b.l:=rfl
 have hf:pairsL a.l b.l yk=pairsL a.l b.l comF:=pairs_congr fun s hs t ht=>by
  unfold yk zb comF
  dsimp only
  rw [imax_eq,imin_eq,some_l]
 unfold zh
 rw [check2_iff.2 ⟨ha,hb⟩]
 simp only [bne_self_eq_false,cond_false]
 have k:=ranges_pairs_3p2_eq b a.l
 rw [hbo,hf] at k
 rcases k with ⟨k1,k2⟩ | ⟨k1,k2⟩ <;> rw [k2] <;> dsimp only
 ·rw [k1]; exact GR_nil
 ·generalize hq:pairsL a.l b.l comF=q at *
  have hlen:q.length≤1099511627776:=by
   rw [← hq]
   exact pairs_small (fun s t=>some_len) ha.2.2 (by have:=hb.2.2; omega)
  rcases ranges_gathered_4p1_at k1 hlen with ⟨g1,g2⟩ | ⟨g1,g2⟩
  ·rw [g2]; exact GR_end g1
  ·refine .inr ⟨.inl g1,?_⟩
   revert g2
   cases zN (zq zp q) 0 <;> intro g2 <;> first | rfl | cases g2

theorem Minus_gr {a b:GS Sn} (ha:Ok a.l) (hb:Ok b.l):GR (pairsL a.l (outS (-1099511627776) b.l) comF) (zm a b):=by
 have hbo:(ze b).l=(outS (-1099511627776) b.l):=outside_eq hb.2.1
 have hf:pairsL a.l (outS (-1099511627776) b.l) yq=pairsL a.l (outS (-1099511627776) b.l) comF:=pairs_congr fun s hs t ht=>by
  unfold yq zc comF
  dsimp only
  rw [imax_eq,imin_eq,some_l]
 unfold zm
 rw [check2_iff.2 ⟨ha,hb⟩]
 simp only [bne_self_eq_false,cond_false]
 have k:=ranges_pairs_3p3_eq (ze b) a.l
 rw [hbo,hf] at k
 rcases k with ⟨k1,k2⟩ | ⟨k1,k2⟩ <;> rw [k2] <;> dsimp only
 ·rw [k1]; exact GR_nil
 ·generalize hq:pairsL a.l (outS (-1099511627776) b.l) comF=q at *
  have hlen:q.length≤1099511627776:=by
   rw [← hq]
   exact pairs_small (fun s t=>some_len) ha.2.2 (by have:=out_len b.l (-1099511627776); have:=hb.2.2; omega)
  rcases ranges_gathered_4p1_at k1 hlen with ⟨g1,g2⟩ | ⟨g1,g2⟩
  ·rw [g2]; exact GR_end g1
  ·refine .inr ⟨.inl g1,?_⟩
   revert g2
   cases zN (zq zp q) 0 <;> intro g2 <;> first | rfl | cases g2

theorem common_res {a b:GS Sn} (ha:Ok a.l) (hb:Ok b.l):Res (fun x=>In a.l x∧In b.l x) (zh a b) :=
 ((Common_gr ha hb).res (pairs_ne fun s _ t _=>some_ne)).congr fun x=>In_common
theorem minus_res {a b:GS Sn} (ha:Ok a.l) (hb:Ok b.l):Res (fun x=>In a.l x∧¬ In b.l x) (zm a b) :=
 ((Minus_gr ha hb).res (pairs_ne fun s _ t _=>some_ne)).congr fun x=>In_minus ha.2.1 hb.1 hb.2.1
end Go.VS

