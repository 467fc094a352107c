/- Nothing of a statement is proved in this text alone: it is part 5 of the proof's own tools, an evaluator of the code over deep values, its soundness, and what it makes of this seat's functions. Conditions: none beyond the statement's own. -/
import Derived.Test.YtpkjnefhnedfdaaGreatDoorVsRCAlg4
set_option linter.unusedSimpArgs false
set_option linter.unusedVariables false
namespace Go.VS
open Go Go.Proofs
set_option maxHeartbeats 0
set_option linter.unusedSimpArgs false
set_option linter.unusedVariables false
theorem zadd_rw {x:Nat} (h:x≤9223372036854775807):I (w64 (0+((x:Nat):Int)))=I ((x:Nat):Int):=by
 congr 1; unfold w64; rw [IntKind.wrap_i64]; omega
theorem add_rw {x y:Nat} (h:x+y≤9223372036854775807):I (w64 (((x:Nat):Int)+((y:Nat):Int)))=I ((x+y:Nat):Int):=by
 congr 1; unfold w64; rw [IntKind.wrap_i64]; omega
theorem sub0_rw {x:Nat} (h:x≤9223372036854775807):I (w64 (((x:Nat):Int) - 0))=I ((x:Nat):Int):=by
 congr 1; unfold w64; rw [IntKind.wrap_i64]; omega

theorem nemp_add {a b:List Sn} (h:decide (((a.length+b.length:Nat):Int) > 0)=true) (ha:a.isEmpty=true):b.isEmpty=false:=by
 have h:=of_decide_eq_true h
 cases a with
 | nil=>cases b with
  | nil=>simp at h
  | cons=>rfl
 | cons=>cases ha
theorem emp1 {a b:List Sn} (h:decide (((a.length+b.length:Nat):Int) > 0)=false):a.isEmpty=true:=by
 have h:=of_decide_eq_false h
 cases a with
 | nil=>rfl
 | cons=>simp at h; omega
theorem emp2 {a b:List Sn} (h:decide (((a.length+b.length:Nat):Int) > 0)=false):b.isEmpty=true:=by
 have h:=of_decide_eq_false h
 cases b with
 | nil=>rfl
 | cons=>simp at h; omega

def sd233 (b:GS Sn) (i4p2:Nat) (q4p2_0:List Sn) (x4p2:Sn) (va4p2_0:List Sn):St:=⟨65,[(12,I ((i4p2+1:Nat):Int)),(60,I ((i4p2+1:Nat):Int)),(55,.lref 3 ((w64 (((va4p2_0.length:Nat):Int) - 1)).toNat) 2 1),(54,.lref 3 ((w64 (((va4p2_0.length:Nat):Int) - 1)).toNat) 2 0),(53,I (imax ((va4p2_0.getD ((w64 (((va4p2_0.length:Nat):Int) - 1)).toNat) default).hi) x4p2.hi)),(52,I x4p2.hi),(51,.lref 4 0 2 1),(50,I ((va4p2_0.getD ((w64 (((va4p2_0.length:Nat):Int) - 1)).toNat) default).hi)),(49,.lref 3 ((w64 (((va4p2_0.length:Nat):Int) - 1)).toNat) 2 1),(48,.lref 3 ((w64 (((va4p2_0.length:Nat):Int) - 1)).toNat) 2 0),(47,I (w64 (((va4p2_0.length:Nat):Int) - 1))),(46,I ((va4p2_0.length:Nat):Int)),(45,.lsl 3 0 va4p2_0.length 2 none),(44,I (w64 (((va4p2_0.length:Nat):Int) - 1))),(43,I ((va4p2_0.length:Nat):Int)),(42,.lsl 3 0 va4p2_0.length 2 none),(41,B true),(40,B true),(39,I (w64 (((va4p2_0.getD ((w64 (((va4p2_0.length:Nat):Int) - 1)).toNat) default).hi)+1))),(38,I ((va4p2_0.getD ((w64 (((va4p2_0.length:Nat):Int) - 1)).toNat) default).hi)),(37,.lref 3 ((w64 (((va4p2_0.length:Nat):Int) - 1)).toNat) 2 1),(36,.lref 3 ((w64 (((va4p2_0.length:Nat):Int) - 1)).toNat) 2 0),(35,I (w64 (((va4p2_0.length:Nat):Int) - 1))),(34,I ((va4p2_0.length:Nat):Int)),(33,.lsl 3 0 va4p2_0.length 2 none),(32,I x4p2.lo),(31,.lref 4 0 2 0),(30,B true),(29,B true),(28,I ((va4p2_0.length:Nat):Int)),(7,I ((va4p2_0.length:Nat):Int)),(27,I ((va4p2_0.length:Nat):Int)),(26,.lsl 3 0 va4p2_0.length 2 none),(25,B false),(24,B false),(23,B true),(22,I x4p2.hi),(21,.lref 4 0 2 1),(20,B false),(19,B false),(18,B true),(17,I x4p2.lo),(16,.lref 4 0 2 0),(6,.lref 4 0 2 0),(15,.agg [I x4p2.lo,I x4p2.hi]),(14,.lref 2 i4p2 2 0),(13,B true),(4,.lsl 3 0 va4p2_0.length 2 none),(10,.lsl 2 0 b.l.length 2 none),(11,I ((b.l.length:Nat):Int)),(12,I ((i4p2:Nat):Int))],[(2,⟨q4p2_0.map Sn.D,2,false⟩),(3,⟨(va4p2_0.set ((w64 (((va4p2_0.length:Nat):Int) - 1)).toNat) (⟨(va4p2_0.getD ((w64 (((va4p2_0.length:Nat):Int) - 1)).toNat) default).lo,imax ((va4p2_0.getD ((w64 (((va4p2_0.length:Nat):Int) - 1)).toNat) default).hi) x4p2.hi⟩:Sn)).map Sn.D,2,false⟩),(4,⟨[.agg [I x4p2.lo,I x4p2.hi]],2,false⟩)],5,3⟩

def sd234 (b:GS Sn) (i4p2:Nat) (q4p2_0:List Sn) (x4p2:Sn) (va4p2_0:List Sn):St:=⟨65,[(12,I ((i4p2+1:Nat):Int)),(60,I ((i4p2+1:Nat):Int)),(4,.lsl 6 0 ((va4p2_0++[x4p2]).length) 2 none),(59,.lsl 6 0 ((va4p2_0++[x4p2]).length) 2 none),(58,.lsl 5 0 1 2 (some 1)),(57,.agg [I x4p2.lo,I x4p2.hi]),(56,.lsl 3 0 va4p2_0.length 2 none),(41,B false),(40,B false),(39,I (w64 (((va4p2_0.getD ((w64 (((va4p2_0.length:Nat):Int) - 1)).toNat) default).hi)+1))),(38,I ((va4p2_0.getD ((w64 (((va4p2_0.length:Nat):Int) - 1)).toNat) default).hi)),(37,.lref 3 ((w64 (((va4p2_0.length:Nat):Int) - 1)).toNat) 2 1),(36,.lref 3 ((w64 (((va4p2_0.length:Nat):Int) - 1)).toNat) 2 0),(35,I (w64 (((va4p2_0.length:Nat):Int) - 1))),(34,I ((va4p2_0.length:Nat):Int)),(33,.lsl 3 0 va4p2_0.length 2 none),(32,I x4p2.lo),(31,.lref 4 0 2 0),(30,B true),(29,B true),(28,I ((va4p2_0.length:Nat):Int)),(7,I ((va4p2_0.length:Nat):Int)),(27,I ((va4p2_0.length:Nat):Int)),(26,.lsl 3 0 va4p2_0.length 2 none),(25,B false),(24,B false),(23,B true),(22,I x4p2.hi),(21,.lref 4 0 2 1),(20,B false),(19,B false),(18,B true),(17,I x4p2.lo),(16,.lref 4 0 2 0),(6,.lref 4 0 2 0),(15,.agg [I x4p2.lo,I x4p2.hi]),(14,.lref 2 i4p2 2 0),(13,B true),(4,.lsl 3 0 va4p2_0.length 2 none),(10,.lsl 2 0 b.l.length 2 none),(11,I ((b.l.length:Nat):Int)),(12,I ((i4p2:Nat):Int))],[(2,⟨q4p2_0.map Sn.D,2,false⟩),(4,⟨[.agg [I x4p2.lo,I x4p2.hi]],2,false⟩),(5,⟨[.agg [I x4p2.lo,I x4p2.hi]],2,false⟩),(6,⟨(va4p2_0++[x4p2]).map Sn.D,2,false⟩)],7,3⟩

def sd235 (b:GS Sn) (i4p2:Nat) (q4p2_0:List Sn) (x4p2:Sn) (va4p2_0:List Sn):St:=⟨65,[(12,I ((i4p2+1:Nat):Int)),(60,I ((i4p2+1:Nat):Int)),(4,.lsl 6 0 ((va4p2_0++[x4p2]).length) 2 none),(59,.lsl 6 0 ((va4p2_0++[x4p2]).length) 2 none),(58,.lsl 5 0 1 2 (some 1)),(57,.agg [I x4p2.lo,I x4p2.hi]),(56,.lsl 3 0 va4p2_0.length 2 none),(41,B false),(40,.tup []),(39,.tup []),(38,.tup []),(37,.tup []),(36,.tup []),(35,.tup []),(34,.tup []),(33,.tup []),(32,.tup []),(31,.tup []),(30,B false),(29,B false),(28,I ((va4p2_0.length:Nat):Int)),(7,I ((va4p2_0.length:Nat):Int)),(27,I ((va4p2_0.length:Nat):Int)),(26,.lsl 3 0 va4p2_0.length 2 none),(25,B false),(24,B false),(23,B true),(22,I x4p2.hi),(21,.lref 4 0 2 1),(20,B false),(19,B false),(18,B true),(17,I x4p2.lo),(16,.lref 4 0 2 0),(6,.lref 4 0 2 0),(15,.agg [I x4p2.lo,I x4p2.hi]),(14,.lref 2 i4p2 2 0),(13,B true),(4,.lsl 3 0 va4p2_0.length 2 none),(10,.lsl 2 0 b.l.length 2 none),(11,I ((b.l.length:Nat):Int)),(12,I ((i4p2:Nat):Int))],[(2,⟨q4p2_0.map Sn.D,2,false⟩),(4,⟨[.agg [I x4p2.lo,I x4p2.hi]],2,false⟩),(5,⟨[.agg [I x4p2.lo,I x4p2.hi]],2,false⟩),(6,⟨(va4p2_0++[x4p2]).map Sn.D,2,false⟩)],7,3⟩

def sd236 (b:GS Sn) (i4p2:Nat) (q4p2_0:List Sn) (x4p2:Sn):St:=⟨65,[(12,I ((i4p2+1:Nat):Int)),(60,I ((i4p2+1:Nat):Int)),(4,.lsl 5 0 1 2 none),(59,.lsl 5 0 1 2 none),(58,.lsl 4 0 1 2 (some 1)),(57,.agg [I x4p2.lo,I x4p2.hi]),(56,.sl true [] 0 none),(41,B false),(40,.tup []),(39,.tup []),(38,.tup []),(37,.tup []),(36,.tup []),(35,.tup []),(34,.tup []),(33,.tup []),(32,.tup []),(31,.tup []),(30,B false),(29,B false),(28,I 0),(7,I 0),(27,I 0),(26,.sl true [] 0 none),(25,B false),(24,B false),(23,B true),(22,I x4p2.hi),(21,.lref 3 0 2 1),(20,B false),(19,B false),(18,B true),(17,I x4p2.lo),(16,.lref 3 0 2 0),(6,.lref 3 0 2 0),(15,.agg [I x4p2.lo,I x4p2.hi]),(14,.lref 2 i4p2 2 0),(13,B true),(4,.sl true [] 0 none),(10,.lsl 2 0 b.l.length 2 none),(11,I ((b.l.length:Nat):Int)),(12,I ((i4p2:Nat):Int))],[(2,⟨q4p2_0.map Sn.D,2,false⟩),(3,⟨[.agg [I x4p2.lo,I x4p2.hi]],2,false⟩),(4,⟨[.agg [I x4p2.lo,I x4p2.hi]],2,false⟩),(5,⟨[.agg [I x4p2.lo,I x4p2.hi]],2,false⟩)],6,3⟩

inductive LR_ranges_gathered_4p2 where
 | x0 (va4p2_0:List Sn)
 | x1 (i4p2:Nat) (x4p2:Sn) (va4p2_0:List Sn)
 | x2 (i4p2:Nat) (x4p2:Sn) (va4p2_0:List Sn)
 | x3
 | x4 (i4p2:Nat) (x4p2:Sn)
 | x5 (i4p2:Nat) (x4p2:Sn)
instance:Inhabited LR_ranges_gathered_4p2:=⟨.x0 default⟩
def ye:List Sn→Nat→(List Sn)→LR_ranges_gathered_4p2
 | [],i4p2,va4p2_0=>.x0 va4p2_0
 | x4p2::rest4p2,i4p2,va4p2_0 =>
  bif (zn x4p2.lo) then
   bif (zn x4p2.hi) then
    bif decide (((va4p2_0.length:Nat):Int) > 0) then
     bif decide (x4p2.lo≤(w64 (((va4p2_0.getD ((w64 (((va4p2_0.length:Nat):Int) - 1)).toNat) default).hi)+1))) then
      ye rest4p2 (i4p2+1) (va4p2_0.set ((w64 (((va4p2_0.length:Nat):Int) - 1)).toNat) (⟨(va4p2_0.getD ((w64 (((va4p2_0.length:Nat):Int) - 1)).toNat) default).lo,imax ((va4p2_0.getD ((w64 (((va4p2_0.length:Nat):Int) - 1)).toNat) default).hi) x4p2.hi⟩:Sn))
     else
      ye rest4p2 (i4p2+1) (va4p2_0++[x4p2])
    else
     ye rest4p2 (i4p2+1) (va4p2_0++[x4p2])
   else
    .x1 i4p2 x4p2 va4p2_0
  else
   .x2 i4p2 x4p2 va4p2_0
def yc:List Sn→Nat→LR_ranges_gathered_4p2
 | [],i4p2=>.x3
 | x4p2::rest4p2,i4p2 =>
  bif (zn x4p2.lo) then
   bif (zn x4p2.hi) then
    ye rest4p2 (i4p2+1) [x4p2]
   else
    .x4 i4p2 x4p2
  else
   .x5 i4p2 x4p2
def zX (b:GS Sn) (q4p2_0:List Sn):LR_ranges_gathered_4p2→Exit × St
 | .x0 va4p2_0=>((.exit 0),⟨65,[(13,B false),(4,.lsl 3 0 va4p2_0.length 2 none),(10,.lsl 2 0 b.l.length 2 none),(11,I ((b.l.length:Nat):Int)),(12,I ((q4p2_0.length:Nat):Int))],[(2,⟨q4p2_0.map Sn.D,2,false⟩),(3,⟨va4p2_0.map Sn.D,2,false⟩)],4,3⟩)
 | .x1 i4p2 x4p2 va4p2_0=>(.ret,⟨65,[(3,I 2),(2,.sl true [] 0 none),(25,B true),(24,B true),(23,B false),(22,I x4p2.hi),(21,.lref 4 0 2 1),(20,B false),(19,B false),(18,B true),(17,I x4p2.lo),(16,.lref 4 0 2 0),(6,.lref 4 0 2 0),(15,.agg [I x4p2.lo,I x4p2.hi]),(14,.lref 2 i4p2 2 0),(13,B true),(4,.lsl 3 0 va4p2_0.length 2 none),(10,.lsl 2 0 b.l.length 2 none),(11,I ((b.l.length:Nat):Int)),(12,I ((i4p2:Nat):Int))],[(2,⟨q4p2_0.map Sn.D,2,false⟩),(3,⟨va4p2_0.map Sn.D,2,false⟩),(4,⟨[.agg [I x4p2.lo,I x4p2.hi]],2,false⟩)],5,3⟩)
 | .x2 i4p2 x4p2 va4p2_0=>(.ret,⟨65,[(3,I 2),(2,.sl true [] 0 none),(25,B true),(24,.tup []),(23,.tup []),(22,.tup []),(21,.tup []),(20,B true),(19,B true),(18,B false),(17,I x4p2.lo),(16,.lref 4 0 2 0),(6,.lref 4 0 2 0),(15,.agg [I x4p2.lo,I x4p2.hi]),(14,.lref 2 i4p2 2 0),(13,B true),(4,.lsl 3 0 va4p2_0.length 2 none),(10,.lsl 2 0 b.l.length 2 none),(11,I ((b.l.length:Nat):Int)),(12,I ((i4p2:Nat):Int))],[(2,⟨q4p2_0.map Sn.D,2,false⟩),(3,⟨va4p2_0.map Sn.D,2,false⟩),(4,⟨[.agg [I x4p2.lo,I x4p2.hi]],2,false⟩)],5,3⟩)
 | .x3=>((.exit 0),⟨65,[(13,B false),(4,.sl true [] 0 none),(10,.lsl 2 0 b.l.length 2 none),(11,I ((b.l.length:Nat):Int)),(12,I ((q4p2_0.length:Nat):Int))],[(2,⟨q4p2_0.map Sn.D,2,false⟩)],3,3⟩)
 | .x4 i4p2 x4p2=>(.ret,⟨65,[(3,I 2),(2,.sl true [] 0 none),(25,B true),(24,B true),(23,B false),(22,I x4p2.hi),(21,.lref 3 0 2 1),(20,B false),(19,B false),(18,B true),(17,I x4p2.lo),(16,.lref 3 0 2 0),(6,.lref 3 0 2 0),(15,.agg [I x4p2.lo,I x4p2.hi]),(14,.lref 2 i4p2 2 0),(13,B true),(4,.sl true [] 0 none),(10,.lsl 2 0 b.l.length 2 none),(11,I ((b.l.length:Nat):Int)),(12,I ((i4p2:Nat):Int))],[(2,⟨q4p2_0.map Sn.D,2,false⟩),(3,⟨[.agg [I x4p2.lo,I x4p2.hi]],2,false⟩)],4,3⟩)
 | .x5 i4p2 x4p2=>(.ret,⟨65,[(3,I 2),(2,.sl true [] 0 none),(25,B true),(24,.tup []),(23,.tup []),(22,.tup []),(21,.tup []),(20,B true),(19,B true),(18,B false),(17,I x4p2.lo),(16,.lref 3 0 2 0),(6,.lref 3 0 2 0),(15,.agg [I x4p2.lo,I x4p2.hi]),(14,.lref 2 i4p2 2 0),(13,B true),(4,.sl true [] 0 none),(10,.lsl 2 0 b.l.length 2 none),(11,I ((b.l.length:Nat):Int)),(12,I ((i4p2:Nat):Int))],[(2,⟨q4p2_0.map Sn.D,2,false⟩),(3,⟨[.agg [I x4p2.lo,I x4p2.hi]],2,false⟩)],4,3⟩)
def ya (b:GS Sn) (q4p2_0:List Sn):LR_ranges_gathered_4p2→Prop
 | .x0 va4p2_0=>(1≤va4p2_0.length)∧(va4p2_0.length≤q4p2_0.length)
 | .x1 i4p2 x4p2 va4p2_0=>(1≤va4p2_0.length)∧(va4p2_0.length≤i4p2)
 | .x2 i4p2 x4p2 va4p2_0=>(1≤va4p2_0.length)∧(va4p2_0.length≤i4p2)
 | .x3=>True
 | .x4 i4p2 x4p2=>True
 | .x5 i4p2 x4p2=>True
def ranges_gathered_4p2a_l_o1 (i4p2:Nat) (x4p2:Sn):List Ora:=[.dec true,.op (some 14) ⟨.lref 2 i4p2 2 0,[],[],4⟩,.op (some 15) ⟨.agg [I x4p2.lo,I x4p2.hi],[],[2],4⟩,.pure (B (zn x4p2.lo))]
def ranges_gathered_4p2a_l_o2 (x4p2:Sn) (va4p2_0:List Sn):List Ora:=[.dec true,.pure (B (zn x4p2.hi)),.dec true,.dec true,.op (some 36) ⟨.lref 3 ((w64 (((va4p2_0.length:Nat):Int) - 1)).toNat) 2 0,[],[],5⟩,.op (some 38) ⟨I ((va4p2_0.getD ((w64 (((va4p2_0.length:Nat):Int) - 1)).toNat) default).hi),[],[3],5⟩]
theorem lp_ranges_gathered_4p2a (b:GS Sn) (q4p2_0:List Sn):∀ (rest4p2:List Sn) (i4p2:Nat) (va4p2_0:List Sn) (hd4p2:q4p2_0.drop i4p2=rest4p2) (hi4p2:i4p2≤q4p2_0.length) (hz4p2_va4p2_0:1≤va4p2_0.length) (hq4p2:q4p2_0.length=b.l.length) (hg4p2_va4p2_0:va4p2_0.length≤i4p2) (hL4p2:q4p2_0.length≤1099511627776),(lim cfg).loop 69 lp69_4 ⟨65,[(4,.lsl 3 0 va4p2_0.length 2 none),(10,.lsl 2 0 b.l.length 2 none),(11,I ((b.l.length:Nat):Int)),(12,I ((i4p2:Nat):Int))],[(2,⟨q4p2_0.map Sn.D,2,false⟩),(3,⟨va4p2_0.map Sn.D,2,false⟩)],4,3⟩=some (zX b q4p2_0 (ye rest4p2 i4p2 va4p2_0)):=by
 intro rest4p2
 induction rest4p2 with
 | nil =>
  intro i4p2 va4p2_0 hd4p2 hi4p2 hz4p2_va4p2_0 hq4p2 hg4p2_va4p2_0 hL4p2
  unfold ye
  obtain rfl:i4p2=q4p2_0.length:=yC hd4p2 hi4p2
  exact zP [.dec false] (Ai (lt_no' hd4p2 hq4p2) trivial) (by kernel_rfl)
 | cons x4p2 rest4p2 ih =>
  intro i4p2 va4p2_0 hd4p2 hi4p2 hz4p2_va4p2_0 hq4p2 hg4p2_va4p2_0 hL4p2
  have hlt4p2:=zl hd4p2
  unfold ye
  have p1:=(idx_row (C:=cfg) (nxt:=4) (t:=22) (ty:=ty22) (te:=yw) (e:=25) (o:=2) (len:=b.l.length) (sz:=2) (cap:=none) (i:=((i4p2:Nat):Int)) (by kernel_rfl) rfl (by kernel_rfl) rfl (by omega) (by omega))
  have p2:=(load_row (C:=cfg) (objs:=[(2,⟨q4p2_0.map Sn.D,2,false⟩),(3,⟨va4p2_0.map Sn.D,2,false⟩)]) (nxt:=4) (t:=25) (ty:=yw) (o:=2) (n:=i4p2) (sz:=2) (sub:=0) (ob:=⟨q4p2_0.map Sn.D,2,false⟩) (e:=Sn.D x4p2) (d:=.agg [I x4p2.lo,I x4p2.hi]) (by kernel_rfl) (by kernel_rfl) rfl (row_at (f:=Sn.D) hd4p2) (by kernel_rfl))
  cases h10:(zn x4p2.lo) with
  | true =>
   cases h11:(zn x4p2.hi) with
   | true =>
    cases h12:decide (((va4p2_0.length:Nat):Int) > 0) with
    | true =>
     have g12:=of_decide_eq_true h12
     have p3:=(idx_row (C:=cfg) (nxt:=5) (t:=23) (ty:=ty23) (te:=yw) (e:=25) (o:=3) (len:=va4p2_0.length) (sz:=2) (cap:=none) (i:=w64 (((va4p2_0.length:Nat):Int) - 1)) (by kernel_rfl) rfl (by kernel_rfl) rfl (by simp only [List.length_append,List.length_cons,List.length_nil,zo] at * <;> omega) (by simp only [List.length_append,List.length_cons,List.length_nil,zo] at * <;> omega))
     have p4:=(load_row (C:=cfg) (objs:=[(2,⟨q4p2_0.map Sn.D,2,false⟩),(3,⟨va4p2_0.map Sn.D,2,false⟩),(4,⟨[.agg [I x4p2.lo,I x4p2.hi]],2,false⟩)]) (nxt:=5) (t:=3) (ty:=ty3) (o:=3) (n:=(w64 (((va4p2_0.length:Nat):Int) - 1)).toNat) (sz:=2) (sub:=1) (ob:=⟨va4p2_0.map Sn.D,2,false⟩) (e:=Sn.D (va4p2_0.getD ((w64 (((va4p2_0.length:Nat):Int) - 1)).toNat) default)) (d:=I ((va4p2_0.getD ((w64 (((va4p2_0.length:Nat):Int) - 1)).toNat) default).hi)) (by kernel_rfl) (by kernel_rfl) rfl (row_get (f:=Sn.D) (by simp only [List.length_append,List.length_cons,List.length_nil,zo] at * <;> omega)) (by kernel_rfl))
     cases h13:decide (x4p2.lo≤(w64 (((va4p2_0.getD ((w64 (((va4p2_0.length:Nat):Int) - 1)).toNat) default).hi)+1))) with
     | true =>
      have g13:=of_decide_eq_true h13
      exact yg (ks:=[4,10,11,12]) (st':=(sd233 b i4p2 q4p2_0 x4p2 va4p2_0)) ((ranges_gathered_4p2a_l_o1 i4p2 x4p2)++((ranges_gathered_4p2a_l_o2 x4p2 va4p2_0)++[.dec true,.op (some 48) ⟨.lref 3 ((w64 (((va4p2_0.length:Nat):Int) - 1)).toNat) 2 0,[],[],5⟩,.op (some 50) ⟨I ((va4p2_0.getD ((w64 (((va4p2_0.length:Nat):Int) - 1)).toNat) default).hi),[],[3],5⟩,.op (some 54) ⟨.lref 3 ((w64 (((va4p2_0.length:Nat):Int) - 1)).toNat) 2 0,[],[],5⟩,.stS 3 ⟨.tup [],[(3,some ⟨(va4p2_0.set ((w64 (((va4p2_0.length:Nat):Int) - 1)).toNat) (⟨(va4p2_0.getD ((w64 (((va4p2_0.length:Nat):Int) - 1)).toNat) default).lo,imax ((va4p2_0.getD ((w64 (((va4p2_0.length:Nat):Int) - 1)).toNat) default).hi) x4p2.hi⟩:Sn)).map Sn.D,2,false⟩)],[3],5⟩,.rw 60 (I ((i4p2+1:Nat):Int))])) (Ai (yE (i:=i4p2) (by have:=zl hd4p2; omega)) (Ai (store_row (C:=cfg) (objs:=[(2,⟨q4p2_0.map Sn.D,2,false⟩),(3,⟨va4p2_0.map Sn.D,2,false⟩),(4,⟨[.agg [I x4p2.lo,I x4p2.hi]],2,false⟩)]) (nxt:=5) (t:=3) (ty:=ty3) (o:=3) (n:=(w64 (((va4p2_0.length:Nat):Int) - 1)).toNat) (sz:=2) (sub:=1) (els:=va4p2_0.map Sn.D) (els':=(va4p2_0.set ((w64 (((va4p2_0.length:Nat):Int) - 1)).toNat) (⟨(va4p2_0.getD ((w64 (((va4p2_0.length:Nat):Int) - 1)).toNat) default).lo,imax ((va4p2_0.getD ((w64 (((va4p2_0.length:Nat):Int) - 1)).toNat) default).hi) x4p2.hi⟩:Sn)).map Sn.D) (e:=Sn.D (va4p2_0.getD ((w64 (((va4p2_0.length:Nat):Int) - 1)).toNat) default)) (e':=Sn.D (⟨(va4p2_0.getD ((w64 (((va4p2_0.length:Nat):Int) - 1)).toNat) default).lo,imax ((va4p2_0.getD ((w64 (((va4p2_0.length:Nat):Int) - 1)).toNat) default).hi) x4p2.hi⟩:Sn)) (v:=I (imax ((va4p2_0.getD ((w64 (((va4p2_0.length:Nat):Int) - 1)).toNat) default).hi) x4p2.hi)) (by kernel_rfl) (by kernel_rfl) (row_get (f:=Sn.D) (by simp only [List.length_append,List.length_cons,List.length_nil,zo] at * <;> omega)) rfl (by kernel_rfl) rfl (by kernel_rfl) (row_set (f:=Sn.D))) (Ai (idx_row (C:=cfg) (nxt:=5) (t:=23) (ty:=ty23) (te:=yw) (e:=25) (o:=3) (len:=va4p2_0.length) (sz:=2) (cap:=none) (i:=w64 (((va4p2_0.length:Nat):Int) - 1)) (by kernel_rfl) rfl (by kernel_rfl) rfl (by simp only [List.length_append,List.length_cons,List.length_nil,zo] at * <;> omega) (by simp only [List.length_append,List.length_cons,List.length_nil,zo] at * <;> omega)) (Ai (load_row (C:=cfg) (objs:=[(2,⟨q4p2_0.map Sn.D,2,false⟩),(3,⟨va4p2_0.map Sn.D,2,false⟩),(4,⟨[.agg [I x4p2.lo,I x4p2.hi]],2,false⟩)]) (nxt:=5) (t:=3) (ty:=ty3) (o:=3) (n:=(w64 (((va4p2_0.length:Nat):Int) - 1)).toNat) (sz:=2) (sub:=1) (ob:=⟨va4p2_0.map Sn.D,2,false⟩) (e:=Sn.D (va4p2_0.getD ((w64 (((va4p2_0.length:Nat):Int) - 1)).toNat) default)) (d:=I ((va4p2_0.getD ((w64 (((va4p2_0.length:Nat):Int) - 1)).toNat) default).hi)) (by kernel_rfl) (by kernel_rfl) rfl (row_get (f:=Sn.D) (by simp only [List.length_append,List.length_cons,List.length_nil,zo] at * <;> omega)) (by kernel_rfl)) (Ai (idx_row (C:=cfg) (nxt:=5) (t:=23) (ty:=ty23) (te:=yw) (e:=25) (o:=3) (len:=va4p2_0.length) (sz:=2) (cap:=none) (i:=w64 (((va4p2_0.length:Nat):Int) - 1)) (by kernel_rfl) rfl (by kernel_rfl) rfl (by simp only [List.length_append,List.length_cons,List.length_nil,zo] at * <;> omega) (by simp only [List.length_append,List.length_cons,List.length_nil,zo] at * <;> omega)) (Ai h13 (Ai p4 (Ai p3 (Ai h12 (Ai h11 (Ai (zv x4p2.hi) (Ai h10 (Ai (zv x4p2.lo) (Ai p2 (Ai p1 (Ai (lt_at' hd4p2 hq4p2) trivial)))))))))))))))) (by kernel_rfl) (by (simp only [sd233,go_sem,List.length_set,Nat.reduceAdd,Nat.reduceEqDiff,Nat.reduceLT,Nat.reduceLeDiff,bI2,zf.idsL,zf.renL,zf.snapAll,z7.idsL,z7.renL,z7.snapAll]) <;> rfl) (ih (i4p2+1) (va4p2_0.set ((w64 (((va4p2_0.length:Nat):Int) - 1)).toNat) (⟨(va4p2_0.getD ((w64 (((va4p2_0.length:Nat):Int) - 1)).toNat) default).lo,imax ((va4p2_0.getD ((w64 (((va4p2_0.length:Nat):Int) - 1)).toNat) default).hi) x4p2.hi⟩:Sn)) (zr hd4p2) (zl hd4p2) (by simp only [List.length_set] at * <;> omega) (by omega) (by simp only [List.length_set] at * <;> omega) (by omega)) (by kernel_rfl)
     | false =>
      have g13:=of_decide_eq_false h13
      exact yg (ks:=[4,10,11,12]) (st':=(sd234 b i4p2 q4p2_0 x4p2 va4p2_0)) ((ranges_gathered_4p2a_l_o1 i4p2 x4p2)++((ranges_gathered_4p2a_l_o2 x4p2 va4p2_0)++[.dec false,.op (some 59) ⟨.lsl 6 0 ((va4p2_0++[x4p2]).length) 2 none,[(3,none),(6,some ⟨(va4p2_0++[x4p2]).map Sn.D,2,false⟩)],[3,5],7⟩,.rw 60 (I ((i4p2+1:Nat):Int))])) (Ai (yE (i:=i4p2) (by have:=zl hd4p2; omega)) (Ai (app_row (f:=Sn.D) (te:=yw) (gO:=zF [(2,⟨q4p2_0.map Sn.D,2,false⟩),(3,⟨va4p2_0.map Sn.D,2,false⟩),(4,⟨[.agg [I x4p2.lo,I x4p2.hi]],2,false⟩),(5,⟨[.agg [I x4p2.lo,I x4p2.hi]],2,false⟩)]) (nxt:=6) (o:=3) (o2:=5) (fz:=false) z7 va4p2_0 x4p2 (by kernel_rfl) (by kernel_rfl) rfl (by kernel_rfl) (by decide) ⟨by simp only [yw,big] <;> (first | assumption | omega | (exact yh (by omega) (by omega)) | (exact zT (by omega)) | (exact zK (by omega)) | (exact zU (by omega)) | (exact zM (by omega)) | (exact zB _ (by omega)) | (simp only [zo] at * <;> omega) | (simp only [zG,GS.some_l,List.length_set,List.length_append,List.length_cons,List.length_nil] at * <;> first | with_reducible assumption | omega) | (simp only [zG,GS.some_l,List.length_set,List.length_append,List.length_cons,List.length_nil,zo] at * <;> first | with_reducible assumption | omega) | (simp at * <;> omega)),by simp only [big] <;> (first | assumption | omega | (exact yh (by omega) (by omega)) | (exact zT (by omega)) | (exact zK (by omega)) | (exact zU (by omega)) | (exact zM (by omega)) | (exact zB _ (by omega)) | (simp only [zo] at * <;> omega) | (simp only [zG,GS.some_l,List.length_set,List.length_append,List.length_cons,List.length_nil] at * <;> first | with_reducible assumption | omega) | (simp only [zG,GS.some_l,List.length_set,List.length_append,List.length_cons,List.length_nil,zo] at * <;> first | with_reducible assumption | omega) | (simp at * <;> omega))⟩) (Ai h13 (Ai p4 (Ai p3 (Ai h12 (Ai h11 (Ai (zv x4p2.hi) (Ai h10 (Ai (zv x4p2.lo) (Ai p2 (Ai p1 (Ai (lt_at' hd4p2 hq4p2) trivial))))))))))))) (by kernel_rfl) (by (simp only [sd234,go_sem,List.length_set,Nat.reduceAdd,Nat.reduceEqDiff,Nat.reduceLT,Nat.reduceLeDiff,bI2,zf.idsL,zf.renL,zf.snapAll,z7.idsL,z7.renL,z7.snapAll]) <;> rfl) (ih (i4p2+1) (va4p2_0++[x4p2]) (zr hd4p2) (zl hd4p2) (by simp only [List.length_append,List.length_cons,List.length_nil] at * <;> omega) (by omega) (by simp only [List.length_append,List.length_cons,List.length_nil] at * <;> omega) (by omega)) (by kernel_rfl)
    | false =>
     have g12:=of_decide_eq_false h12
     exact yg (ks:=[4,10,11,12]) (st':=(sd235 b i4p2 q4p2_0 x4p2 va4p2_0)) ((ranges_gathered_4p2a_l_o1 i4p2 x4p2)++[.dec true,.pure (B (zn x4p2.hi)),.dec true,.dec false,.op (some 59) ⟨.lsl 6 0 ((va4p2_0++[x4p2]).length) 2 none,[(3,none),(6,some ⟨(va4p2_0++[x4p2]).map Sn.D,2,false⟩)],[3,5],7⟩,.rw 60 (I ((i4p2+1:Nat):Int))]) (Ai (yE (i:=i4p2) (by have:=zl hd4p2; omega)) (Ai (app_row (f:=Sn.D) (te:=yw) (gO:=zF [(2,⟨q4p2_0.map Sn.D,2,false⟩),(3,⟨va4p2_0.map Sn.D,2,false⟩),(4,⟨[.agg [I x4p2.lo,I x4p2.hi]],2,false⟩),(5,⟨[.agg [I x4p2.lo,I x4p2.hi]],2,false⟩)]) (nxt:=6) (o:=3) (o2:=5) (fz:=false) z7 va4p2_0 x4p2 (by kernel_rfl) (by kernel_rfl) rfl (by kernel_rfl) (by decide) ⟨by simp only [yw,big] <;> (first | assumption | omega | (exact yh (by omega) (by omega)) | (exact zT (by omega)) | (exact zK (by omega)) | (exact zU (by omega)) | (exact zM (by omega)) | (exact zB _ (by omega)) | (simp only [zo] at * <;> omega) | (simp only [zG,GS.some_l,List.length_set,List.length_append,List.length_cons,List.length_nil] at * <;> first | with_reducible assumption | omega) | (simp only [zG,GS.some_l,List.length_set,List.length_append,List.length_cons,List.length_nil,zo] at * <;> first | with_reducible assumption | omega) | (simp at * <;> omega)),by simp only [big] <;> (first | assumption | omega | (exact yh (by omega) (by omega)) | (exact zT (by omega)) | (exact zK (by omega)) | (exact zU (by omega)) | (exact zM (by omega)) | (exact zB _ (by omega)) | (simp only [zo] at * <;> omega) | (simp only [zG,GS.some_l,List.length_set,List.length_append,List.length_cons,List.length_nil] at * <;> first | with_reducible assumption | omega) | (simp only [zG,GS.some_l,List.length_set,List.length_append,List.length_cons,List.length_nil,zo] at * <;> first | with_reducible assumption | omega) | (simp at * <;> omega))⟩) (Ai h12 (Ai h11 (Ai (zv x4p2.hi) (Ai h10 (Ai (zv x4p2.lo) (Ai p2 (Ai p1 (Ai (lt_at' hd4p2 hq4p2) trivial)))))))))) (by kernel_rfl) (by (simp only [sd235,go_sem,List.length_set,Nat.reduceAdd,Nat.reduceEqDiff,Nat.reduceLT,Nat.reduceLeDiff,bI2,zf.idsL,zf.renL,zf.snapAll,z7.idsL,z7.renL,z7.snapAll]) <;> rfl) (ih (i4p2+1) (va4p2_0++[x4p2]) (zr hd4p2) (zl hd4p2) (by omega) (by omega) (by omega) (by omega)) (by kernel_rfl)
   | false =>
    exact zP ((ranges_gathered_4p2a_l_o1 i4p2 x4p2)++[.dec true,.pure (B (zn x4p2.hi)),.dec false]) (Ai h11 (Ai (zv x4p2.hi) (Ai h10 (Ai (zv x4p2.lo) (Ai p2 (Ai p1 (Ai (lt_at' hd4p2 hq4p2) trivial))))))) (by kernel_rfl)
  | false =>
   exact zP ((ranges_gathered_4p2a_l_o1 i4p2 x4p2)++[.dec false]) (Ai h10 (Ai (zv x4p2.lo) (Ai p2 (Ai p1 (Ai (lt_at' hd4p2 hq4p2) trivial))))) (by kernel_rfl)
theorem ivt_ranges_gathered_4p2a (b:GS Sn) (q4p2_0:List Sn):∀ (rest4p2:List Sn) (i4p2:Nat) (va4p2_0:List Sn) (hd4p2:q4p2_0.drop i4p2=rest4p2) (hi4p2:i4p2≤q4p2_0.length) (hz4p2_va4p2_0:1≤va4p2_0.length) (hq4p2:q4p2_0.length=b.l.length) (hg4p2_va4p2_0:va4p2_0.length≤i4p2) (hL4p2:q4p2_0.length≤1099511627776),ya b q4p2_0 (ye rest4p2 i4p2 va4p2_0):=by
 intro rest4p2
 induction rest4p2 with
 | nil =>
  intro i4p2 va4p2_0 hd4p2 hi4p2 hz4p2_va4p2_0 hq4p2 hg4p2_va4p2_0 hL4p2
  unfold ye
  obtain rfl:i4p2=q4p2_0.length:=yC hd4p2 hi4p2
  exact ⟨hz4p2_va4p2_0,hg4p2_va4p2_0⟩
 | cons x4p2 rest4p2 ih =>
  intro i4p2 va4p2_0 hd4p2 hi4p2 hz4p2_va4p2_0 hq4p2 hg4p2_va4p2_0 hL4p2
  have hlt4p2:=zl hd4p2
  unfold ye
  cases h10:(zn x4p2.lo) with
  | true =>
   cases h11:(zn x4p2.hi) with
   | true =>
    cases h12:decide (((va4p2_0.length:Nat):Int) > 0) with
    | true =>
     have g12:=of_decide_eq_true h12
     cases h13:decide (x4p2.lo≤(w64 (((va4p2_0.getD ((w64 (((va4p2_0.length:Nat):Int) - 1)).toNat) default).hi)+1))) with
     | true =>
      have g13:=of_decide_eq_true h13
      exact ih (i4p2+1) (va4p2_0.set ((w64 (((va4p2_0.length:Nat):Int) - 1)).toNat) (⟨(va4p2_0.getD ((w64 (((va4p2_0.length:Nat):Int) - 1)).toNat) default).lo,imax ((va4p2_0.getD ((w64 (((va4p2_0.length:Nat):Int) - 1)).toNat) default).hi) x4p2.hi⟩:Sn)) (zr hd4p2) (zl hd4p2) (by simp only [List.length_set] at * <;> omega) (by omega) (by simp only [List.length_set] at * <;> omega) (by omega)
     | false =>
      have g13:=of_decide_eq_false h13
      exact ih (i4p2+1) (va4p2_0++[x4p2]) (zr hd4p2) (zl hd4p2) (by simp only [List.length_append,List.length_cons,List.length_nil] at * <;> omega) (by omega) (by simp only [List.length_append,List.length_cons,List.length_nil] at * <;> omega) (by omega)
    | false =>
     have g12:=of_decide_eq_false h12
     exact ih (i4p2+1) (va4p2_0++[x4p2]) (zr hd4p2) (zl hd4p2) (by omega) (by omega) (by omega) (by omega)
   | false =>
    exact ⟨hz4p2_va4p2_0,hg4p2_va4p2_0⟩
  | false =>
   exact ⟨hz4p2_va4p2_0,hg4p2_va4p2_0⟩
def ranges_gathered_4p2_l_o1 (i4p2:Nat) (x4p2:Sn):List Ora:=[.dec true,.op (some 14) ⟨.lref 2 i4p2 2 0,[],[],3⟩,.op (some 15) ⟨.agg [I x4p2.lo,I x4p2.hi],[],[2],3⟩,.pure (B (zn x4p2.lo))]
theorem lp_ranges_gathered_4p2 (b:GS Sn) (q4p2_0:List Sn):∀ (rest4p2:List Sn) (i4p2:Nat) (hd4p2:q4p2_0.drop i4p2=rest4p2) (hi4p2:i4p2≤q4p2_0.length) (hq4p2:q4p2_0.length=b.l.length) (hL4p2:q4p2_0.length≤1099511627776),(lim cfg).loop 69 lp69_4 ⟨65,[(4,.sl true [] 0 none),(10,.lsl 2 0 b.l.length 2 none),(11,I ((b.l.length:Nat):Int)),(12,I ((i4p2:Nat):Int))],[(2,⟨q4p2_0.map Sn.D,2,false⟩)],3,3⟩=some (zX b q4p2_0 (yc rest4p2 i4p2)):=by
 intro rest4p2
 induction rest4p2 with
 | nil =>
  intro i4p2 hd4p2 hi4p2 hq4p2 hL4p2
  unfold yc
  obtain rfl:i4p2=q4p2_0.length:=yC hd4p2 hi4p2
  exact zP [.dec false] (Ai (lt_no' hd4p2 hq4p2) trivial) (by kernel_rfl)
 | cons x4p2 rest4p2 ih =>
  intro i4p2 hd4p2 hi4p2 hq4p2 hL4p2
  have hlt4p2:=zl hd4p2
  unfold yc
  dsimp only
  have p1:=(idx_row (C:=cfg) (nxt:=3) (t:=22) (ty:=ty22) (te:=yw) (e:=25) (o:=2) (len:=b.l.length) (sz:=2) (cap:=none) (i:=((i4p2:Nat):Int)) (by kernel_rfl) rfl (by kernel_rfl) rfl (by omega) (by omega))
  have p2:=(load_row (C:=cfg) (objs:=[(2,⟨q4p2_0.map Sn.D,2,false⟩)]) (nxt:=3) (t:=25) (ty:=yw) (o:=2) (n:=i4p2) (sz:=2) (sub:=0) (ob:=⟨q4p2_0.map Sn.D,2,false⟩) (e:=Sn.D x4p2) (d:=.agg [I x4p2.lo,I x4p2.hi]) (by kernel_rfl) (by kernel_rfl) rfl (row_at (f:=Sn.D) hd4p2) (by kernel_rfl))
  cases h14:(zn x4p2.lo) with
  | true =>
   cases h15:(zn x4p2.hi) with
   | true =>
    exact yg (ks:=[4,10,11,12]) (st':=(sd236 b i4p2 q4p2_0 x4p2)) ((ranges_gathered_4p2_l_o1 i4p2 x4p2)++[.dec true,.pure (B (zn x4p2.hi)),.dec true,.dec false,.rw 60 (I ((i4p2+1:Nat):Int))]) (Ai (yE (i:=i4p2) (by have:=zl hd4p2; omega)) (Ai (Eq.refl false) (Ai h15 (Ai (zv x4p2.hi) (Ai h14 (Ai (zv x4p2.lo) (Ai p2 (Ai p1 (Ai (lt_at' hd4p2 hq4p2) trivial))))))))) (by kernel_rfl) (by (simp only [sd236,go_sem,List.length_set,Nat.reduceAdd,Nat.reduceEqDiff,Nat.reduceLT,Nat.reduceLeDiff,bI2,zf.idsL,zf.renL,zf.snapAll,z7.idsL,z7.renL,z7.snapAll]) <;> rfl) (lp_ranges_gathered_4p2a b q4p2_0 _ (i4p2+1) [x4p2] (zr hd4p2) (zl hd4p2) (by simp only [List.length_append,List.length_cons,List.length_nil] at * <;> omega) (by omega) (by simp only [List.length_append,List.length_cons,List.length_nil] at * <;> omega) (by omega)) (by kernel_rfl)
   | false =>
    exact zP ((ranges_gathered_4p2_l_o1 i4p2 x4p2)++[.dec true,.pure (B (zn x4p2.hi)),.dec false]) (Ai h15 (Ai (zv x4p2.hi) (Ai h14 (Ai (zv x4p2.lo) (Ai p2 (Ai p1 (Ai (lt_at' hd4p2 hq4p2) trivial))))))) (by kernel_rfl)
  | false =>
   exact zP ((ranges_gathered_4p2_l_o1 i4p2 x4p2)++[.dec false]) (Ai h14 (Ai (zv x4p2.lo) (Ai p2 (Ai p1 (Ai (lt_at' hd4p2 hq4p2) trivial))))) (by kernel_rfl)
theorem ivt_ranges_gathered_4p2 (b:GS Sn) (q4p2_0:List Sn):∀ (rest4p2:List Sn) (i4p2:Nat) (hd4p2:q4p2_0.drop i4p2=rest4p2) (hi4p2:i4p2≤q4p2_0.length) (hq4p2:q4p2_0.length=b.l.length) (hL4p2:q4p2_0.length≤1099511627776),ya b q4p2_0 (yc rest4p2 i4p2):=by
 intro rest4p2
 induction rest4p2 with
 | nil =>
  intro i4p2 hd4p2 hi4p2 hq4p2 hL4p2
  unfold yc
  obtain rfl:i4p2=q4p2_0.length:=yC hd4p2 hi4p2
  exact trivial
 | cons x4p2 rest4p2 ih =>
  intro i4p2 hd4p2 hi4p2 hq4p2 hL4p2
  have hlt4p2:=zl hd4p2
  unfold yc
  dsimp only
  cases h14:(zn x4p2.lo) with
  | true =>
   cases h15:(zn x4p2.hi) with
   | true =>
    exact ivt_ranges_gathered_4p2a b q4p2_0 _ (i4p2+1) [x4p2] (zr hd4p2) (zl hd4p2) (by simp only [List.length_append,List.length_cons,List.length_nil] at * <;> omega) (by omega) (by simp only [List.length_append,List.length_cons,List.length_nil] at * <;> omega) (by omega)
   | false =>
    exact trivial
  | false =>
   exact trivial

def sd263 (a:GS Sn) (b:GS Sn) (i4p3:Nat) (q4p3_0:List Sn) (x4p3:Sn) (va4p3_0:List Sn):St:=⟨65,[(12,I ((i4p3+1:Nat):Int)),(60,I ((i4p3+1:Nat):Int)),(55,.lref 3 ((w64 (((va4p3_0.length:Nat):Int) - 1)).toNat) 2 1),(54,.lref 3 ((w64 (((va4p3_0.length:Nat):Int) - 1)).toNat) 2 0),(53,I (imax ((va4p3_0.getD ((w64 (((va4p3_0.length:Nat):Int) - 1)).toNat) default).hi) x4p3.hi)),(52,I x4p3.hi),(51,.lref 4 0 2 1),(50,I ((va4p3_0.getD ((w64 (((va4p3_0.length:Nat):Int) - 1)).toNat) default).hi)),(49,.lref 3 ((w64 (((va4p3_0.length:Nat):Int) - 1)).toNat) 2 1),(48,.lref 3 ((w64 (((va4p3_0.length:Nat):Int) - 1)).toNat) 2 0),(47,I (w64 (((va4p3_0.length:Nat):Int) - 1))),(46,I ((va4p3_0.length:Nat):Int)),(45,.lsl 3 0 va4p3_0.length 2 none),(44,I (w64 (((va4p3_0.length:Nat):Int) - 1))),(43,I ((va4p3_0.length:Nat):Int)),(42,.lsl 3 0 va4p3_0.length 2 none),(41,B true),(40,B true),(39,I (w64 (((va4p3_0.getD ((w64 (((va4p3_0.length:Nat):Int) - 1)).toNat) default).hi)+1))),(38,I ((va4p3_0.getD ((w64 (((va4p3_0.length:Nat):Int) - 1)).toNat) default).hi)),(37,.lref 3 ((w64 (((va4p3_0.length:Nat):Int) - 1)).toNat) 2 1),(36,.lref 3 ((w64 (((va4p3_0.length:Nat):Int) - 1)).toNat) 2 0),(35,I (w64 (((va4p3_0.length:Nat):Int) - 1))),(34,I ((va4p3_0.length:Nat):Int)),(33,.lsl 3 0 va4p3_0.length 2 none),(32,I x4p3.lo),(31,.lref 4 0 2 0),(30,B true),(29,B true),(28,I ((va4p3_0.length:Nat):Int)),(7,I ((va4p3_0.length:Nat):Int)),(27,I ((va4p3_0.length:Nat):Int)),(26,.lsl 3 0 va4p3_0.length 2 none),(25,B false),(24,B false),(23,B true),(22,I x4p3.hi),(21,.lref 4 0 2 1),(20,B false),(19,B false),(18,B true),(17,I x4p3.lo),(16,.lref 4 0 2 0),(6,.lref 4 0 2 0),(15,.agg [I x4p3.lo,I x4p3.hi]),(14,.lref 2 i4p3 2 0),(13,B true),(4,.lsl 3 0 va4p3_0.length 2 none),(10,.lsl 2 0 ((a.l++b.l).length) 2 none),(11,I (((a.l++b.l).length:Nat):Int)),(12,I ((i4p3:Nat):Int))],[(2,⟨q4p3_0.map Sn.D,2,false⟩),(3,⟨(va4p3_0.set ((w64 (((va4p3_0.length:Nat):Int) - 1)).toNat) (⟨(va4p3_0.getD ((w64 (((va4p3_0.length:Nat):Int) - 1)).toNat) default).lo,imax ((va4p3_0.getD ((w64 (((va4p3_0.length:Nat):Int) - 1)).toNat) default).hi) x4p3.hi⟩:Sn)).map Sn.D,2,false⟩),(4,⟨[.agg [I x4p3.lo,I x4p3.hi]],2,false⟩)],5,3⟩

def sd264 (a:GS Sn) (b:GS Sn) (i4p3:Nat) (q4p3_0:List Sn) (x4p3:Sn) (va4p3_0:List Sn):St:=⟨65,[(12,I ((i4p3+1:Nat):Int)),(60,I ((i4p3+1:Nat):Int)),(4,.lsl 6 0 ((va4p3_0++[x4p3]).length) 2 none),(59,.lsl 6 0 ((va4p3_0++[x4p3]).length) 2 none),(58,.lsl 5 0 1 2 (some 1)),(57,.agg [I x4p3.lo,I x4p3.hi]),(56,.lsl 3 0 va4p3_0.length 2 none),(41,B false),(40,B false),(39,I (w64 (((va4p3_0.getD ((w64 (((va4p3_0.length:Nat):Int) - 1)).toNat) default).hi)+1))),(38,I ((va4p3_0.getD ((w64 (((va4p3_0.length:Nat):Int) - 1)).toNat) default).hi)),(37,.lref 3 ((w64 (((va4p3_0.length:Nat):Int) - 1)).toNat) 2 1),(36,.lref 3 ((w64 (((va4p3_0.length:Nat):Int) - 1)).toNat) 2 0),(35,I (w64 (((va4p3_0.length:Nat):Int) - 1))),(34,I ((va4p3_0.length:Nat):Int)),(33,.lsl 3 0 va4p3_0.length 2 none),(32,I x4p3.lo),(31,.lref 4 0 2 0),(30,B true),(29,B true),(28,I ((va4p3_0.length:Nat):Int)),(7,I ((va4p3_0.length:Nat):Int)),(27,I ((va4p3_0.length:Nat):Int)),(26,.lsl 3 0 va4p3_0.length 2 none),(25,B false),(24,B false),(23,B true),(22,I x4p3.hi),(21,.lref 4 0 2 1),(20,B false),(19,B false),(18,B true),(17,I x4p3.lo),(16,.lref 4 0 2 0),(6,.lref 4 0 2 0),(15,.agg [I x4p3.lo,I x4p3.hi]),(14,.lref 2 i4p3 2 0),(13,B true),(4,.lsl 3 0 va4p3_0.length 2 none),(10,.lsl 2 0 ((a.l++b.l).length) 2 none),(11,I (((a.l++b.l).length:Nat):Int)),(12,I ((i4p3:Nat):Int))],[(2,⟨q4p3_0.map Sn.D,2,false⟩),(4,⟨[.agg [I x4p3.lo,I x4p3.hi]],2,false⟩),(5,⟨[.agg [I x4p3.lo,I x4p3.hi]],2,false⟩),(6,⟨(va4p3_0++[x4p3]).map Sn.D,2,false⟩)],7,3⟩

def sd265 (a:GS Sn) (b:GS Sn) (i4p3:Nat) (q4p3_0:List Sn) (x4p3:Sn) (va4p3_0:List Sn):St:=⟨65,[(12,I ((i4p3+1:Nat):Int)),(60,I ((i4p3+1:Nat):Int)),(4,.lsl 6 0 ((va4p3_0++[x4p3]).length) 2 none),(59,.lsl 6 0 ((va4p3_0++[x4p3]).length) 2 none),(58,.lsl 5 0 1 2 (some 1)),(57,.agg [I x4p3.lo,I x4p3.hi]),(56,.lsl 3 0 va4p3_0.length 2 none),(41,B false),(40,.tup []),(39,.tup []),(38,.tup []),(37,.tup []),(36,.tup []),(35,.tup []),(34,.tup []),(33,.tup []),(32,.tup []),(31,.tup []),(30,B false),(29,B false),(28,I ((va4p3_0.length:Nat):Int)),(7,I ((va4p3_0.length:Nat):Int)),(27,I ((va4p3_0.length:Nat):Int)),(26,.lsl 3 0 va4p3_0.length 2 none),(25,B false),(24,B false),(23,B true),(22,I x4p3.hi),(21,.lref 4 0 2 1),(20,B false),(19,B false),(18,B true),(17,I x4p3.lo),(16,.lref 4 0 2 0),(6,.lref 4 0 2 0),(15,.agg [I x4p3.lo,I x4p3.hi]),(14,.lref 2 i4p3 2 0),(13,B true),(4,.lsl 3 0 va4p3_0.length 2 none),(10,.lsl 2 0 ((a.l++b.l).length) 2 none),(11,I (((a.l++b.l).length:Nat):Int)),(12,I ((i4p3:Nat):Int))],[(2,⟨q4p3_0.map Sn.D,2,false⟩),(4,⟨[.agg [I x4p3.lo,I x4p3.hi]],2,false⟩),(5,⟨[.agg [I x4p3.lo,I x4p3.hi]],2,false⟩),(6,⟨(va4p3_0++[x4p3]).map Sn.D,2,false⟩)],7,3⟩

def sd266 (a:GS Sn) (b:GS Sn) (i4p3:Nat) (q4p3_0:List Sn) (x4p3:Sn):St:=⟨65,[(12,I ((i4p3+1:Nat):Int)),(60,I ((i4p3+1:Nat):Int)),(4,.lsl 5 0 1 2 none),(59,.lsl 5 0 1 2 none),(58,.lsl 4 0 1 2 (some 1)),(57,.agg [I x4p3.lo,I x4p3.hi]),(56,.sl true [] 0 none),(41,B false),(40,.tup []),(39,.tup []),(38,.tup []),(37,.tup []),(36,.tup []),(35,.tup []),(34,.tup []),(33,.tup []),(32,.tup []),(31,.tup []),(30,B false),(29,B false),(28,I 0),(7,I 0),(27,I 0),(26,.sl true [] 0 none),(25,B false),(24,B false),(23,B true),(22,I x4p3.hi),(21,.lref 3 0 2 1),(20,B false),(19,B false),(18,B true),(17,I x4p3.lo),(16,.lref 3 0 2 0),(6,.lref 3 0 2 0),(15,.agg [I x4p3.lo,I x4p3.hi]),(14,.lref 2 i4p3 2 0),(13,B true),(4,.sl true [] 0 none),(10,.lsl 2 0 ((a.l++b.l).length) 2 none),(11,I (((a.l++b.l).length:Nat):Int)),(12,I ((i4p3:Nat):Int))],[(2,⟨q4p3_0.map Sn.D,2,false⟩),(3,⟨[.agg [I x4p3.lo,I x4p3.hi]],2,false⟩),(4,⟨[.agg [I x4p3.lo,I x4p3.hi]],2,false⟩),(5,⟨[.agg [I x4p3.lo,I x4p3.hi]],2,false⟩)],6,3⟩

inductive LR_ranges_gathered_4p3 where
 | x0 (va4p3_0:List Sn)
 | x1 (i4p3:Nat) (x4p3:Sn) (va4p3_0:List Sn)
 | x2 (i4p3:Nat) (x4p3:Sn) (va4p3_0:List Sn)
 | x3
 | x4 (i4p3:Nat) (x4p3:Sn)
 | x5 (i4p3:Nat) (x4p3:Sn)
instance:Inhabited LR_ranges_gathered_4p3:=⟨.x0 default⟩
def yf:List Sn→Nat→(List Sn)→LR_ranges_gathered_4p3
 | [],i4p3,va4p3_0=>.x0 va4p3_0
 | x4p3::rest4p3,i4p3,va4p3_0 =>
  bif (zn x4p3.lo) then
   bif (zn x4p3.hi) then
    bif decide (((va4p3_0.length:Nat):Int) > 0) then
     bif decide (x4p3.lo≤(w64 (((va4p3_0.getD ((w64 (((va4p3_0.length:Nat):Int) - 1)).toNat) default).hi)+1))) then
      yf rest4p3 (i4p3+1) (va4p3_0.set ((w64 (((va4p3_0.length:Nat):Int) - 1)).toNat) (⟨(va4p3_0.getD ((w64 (((va4p3_0.length:Nat):Int) - 1)).toNat) default).lo,imax ((va4p3_0.getD ((w64 (((va4p3_0.length:Nat):Int) - 1)).toNat) default).hi) x4p3.hi⟩:Sn))
     else
      yf rest4p3 (i4p3+1) (va4p3_0++[x4p3])
    else
     yf rest4p3 (i4p3+1) (va4p3_0++[x4p3])
   else
    .x1 i4p3 x4p3 va4p3_0
  else
   .x2 i4p3 x4p3 va4p3_0
def yt:List Sn→Nat→LR_ranges_gathered_4p3
 | [],i4p3=>.x3
 | x4p3::rest4p3,i4p3 =>
  bif (zn x4p3.lo) then
   bif (zn x4p3.hi) then
    yf rest4p3 (i4p3+1) [x4p3]
   else
    .x4 i4p3 x4p3
  else
   .x5 i4p3 x4p3
def lr_ranges_gathered_4p3 (a:GS Sn) (b:GS Sn) (q4p3_0:List Sn):LR_ranges_gathered_4p3→Exit × St
 | .x0 va4p3_0=>((.exit 0),⟨65,[(13,B false),(4,.lsl 3 0 va4p3_0.length 2 none),(10,.lsl 2 0 ((a.l++b.l).length) 2 none),(11,I (((a.l++b.l).length:Nat):Int)),(12,I ((q4p3_0.length:Nat):Int))],[(2,⟨q4p3_0.map Sn.D,2,false⟩),(3,⟨va4p3_0.map Sn.D,2,false⟩)],4,3⟩)
 | .x1 i4p3 x4p3 va4p3_0=>(.ret,⟨65,[(3,I 2),(2,.sl true [] 0 none),(25,B true),(24,B true),(23,B false),(22,I x4p3.hi),(21,.lref 4 0 2 1),(20,B false),(19,B false),(18,B true),(17,I x4p3.lo),(16,.lref 4 0 2 0),(6,.lref 4 0 2 0),(15,.agg [I x4p3.lo,I x4p3.hi]),(14,.lref 2 i4p3 2 0),(13,B true),(4,.lsl 3 0 va4p3_0.length 2 none),(10,.lsl 2 0 ((a.l++b.l).length) 2 none),(11,I (((a.l++b.l).length:Nat):Int)),(12,I ((i4p3:Nat):Int))],[(2,⟨q4p3_0.map Sn.D,2,false⟩),(3,⟨va4p3_0.map Sn.D,2,false⟩),(4,⟨[.agg [I x4p3.lo,I x4p3.hi]],2,false⟩)],5,3⟩)
 | .x2 i4p3 x4p3 va4p3_0=>(.ret,⟨65,[(3,I 2),(2,.sl true [] 0 none),(25,B true),(24,.tup []),(23,.tup []),(22,.tup []),(21,.tup []),(20,B true),(19,B true),(18,B false),(17,I x4p3.lo),(16,.lref 4 0 2 0),(6,.lref 4 0 2 0),(15,.agg [I x4p3.lo,I x4p3.hi]),(14,.lref 2 i4p3 2 0),(13,B true),(4,.lsl 3 0 va4p3_0.length 2 none),(10,.lsl 2 0 ((a.l++b.l).length) 2 none),(11,I (((a.l++b.l).length:Nat):Int)),(12,I ((i4p3:Nat):Int))],[(2,⟨q4p3_0.map Sn.D,2,false⟩),(3,⟨va4p3_0.map Sn.D,2,false⟩),(4,⟨[.agg [I x4p3.lo,I x4p3.hi]],2,false⟩)],5,3⟩)
 | .x3=>((.exit 0),⟨65,[(13,B false),(4,.sl true [] 0 none),(10,.lsl 2 0 ((a.l++b.l).length) 2 none),(11,I (((a.l++b.l).length:Nat):Int)),(12,I ((q4p3_0.length:Nat):Int))],[(2,⟨q4p3_0.map Sn.D,2,false⟩)],3,3⟩)
 | .x4 i4p3 x4p3=>(.ret,⟨65,[(3,I 2),(2,.sl true [] 0 none),(25,B true),(24,B true),(23,B false),(22,I x4p3.hi),(21,.lref 3 0 2 1),(20,B false),(19,B false),(18,B true),(17,I x4p3.lo),(16,.lref 3 0 2 0),(6,.lref 3 0 2 0),(15,.agg [I x4p3.lo,I x4p3.hi]),(14,.lref 2 i4p3 2 0),(13,B true),(4,.sl true [] 0 none),(10,.lsl 2 0 ((a.l++b.l).length) 2 none),(11,I (((a.l++b.l).length:Nat):Int)),(12,I ((i4p3:Nat):Int))],[(2,⟨q4p3_0.map Sn.D,2,false⟩),(3,⟨[.agg [I x4p3.lo,I x4p3.hi]],2,false⟩)],4,3⟩)
 | .x5 i4p3 x4p3=>(.ret,⟨65,[(3,I 2),(2,.sl true [] 0 none),(25,B true),(24,.tup []),(23,.tup []),(22,.tup []),(21,.tup []),(20,B true),(19,B true),(18,B false),(17,I x4p3.lo),(16,.lref 3 0 2 0),(6,.lref 3 0 2 0),(15,.agg [I x4p3.lo,I x4p3.hi]),(14,.lref 2 i4p3 2 0),(13,B true),(4,.sl true [] 0 none),(10,.lsl 2 0 ((a.l++b.l).length) 2 none),(11,I (((a.l++b.l).length:Nat):Int)),(12,I ((i4p3:Nat):Int))],[(2,⟨q4p3_0.map Sn.D,2,false⟩),(3,⟨[.agg [I x4p3.lo,I x4p3.hi]],2,false⟩)],4,3⟩)
def iv_ranges_gathered_4p3 (a:GS Sn) (b:GS Sn) (q4p3_0:List Sn):LR_ranges_gathered_4p3→Prop
 | .x0 va4p3_0=>(1≤va4p3_0.length)∧(va4p3_0.length≤q4p3_0.length)
 | .x1 i4p3 x4p3 va4p3_0=>(1≤va4p3_0.length)∧(va4p3_0.length≤i4p3)
 | .x2 i4p3 x4p3 va4p3_0=>(1≤va4p3_0.length)∧(va4p3_0.length≤i4p3)
 | .x3=>True
 | .x4 i4p3 x4p3=>True
 | .x5 i4p3 x4p3=>True
def ranges_gathered_4p3a_l_o1 (i4p3:Nat) (x4p3:Sn):List Ora:=[.dec true,.op (some 14) ⟨.lref 2 i4p3 2 0,[],[],4⟩,.op (some 15) ⟨.agg [I x4p3.lo,I x4p3.hi],[],[2],4⟩,.pure (B (zn x4p3.lo))]
def ranges_gathered_4p3a_l_o2 (x4p3:Sn) (va4p3_0:List Sn):List Ora:=[.dec true,.pure (B (zn x4p3.hi)),.dec true,.dec true,.op (some 36) ⟨.lref 3 ((w64 (((va4p3_0.length:Nat):Int) - 1)).toNat) 2 0,[],[],5⟩,.op (some 38) ⟨I ((va4p3_0.getD ((w64 (((va4p3_0.length:Nat):Int) - 1)).toNat) default).hi),[],[3],5⟩]
theorem lp_ranges_gathered_4p3a (a:GS Sn) (b:GS Sn) (q4p3_0:List Sn):∀ (rest4p3:List Sn) (i4p3:Nat) (va4p3_0:List Sn) (hd4p3:q4p3_0.drop i4p3=rest4p3) (hi4p3:i4p3≤q4p3_0.length) (hz4p3_va4p3_0:1≤va4p3_0.length) (hq4p3:q4p3_0.length=(a.l++b.l).length) (hg4p3_va4p3_0:va4p3_0.length≤i4p3) (hL4p3:q4p3_0.length≤1099511627776),(lim cfg).loop 69 lp69_4 ⟨65,[(4,.lsl 3 0 va4p3_0.length 2 none),(10,.lsl 2 0 ((a.l++b.l).length) 2 none),(11,I (((a.l++b.l).length:Nat):Int)),(12,I ((i4p3:Nat):Int))],[(2,⟨q4p3_0.map Sn.D,2,false⟩),(3,⟨va4p3_0.map Sn.D,2,false⟩)],4,3⟩=some (lr_ranges_gathered_4p3 a b q4p3_0 (yf rest4p3 i4p3 va4p3_0)):=by
 intro rest4p3
 induction rest4p3 with
 | nil =>
  intro i4p3 va4p3_0 hd4p3 hi4p3 hz4p3_va4p3_0 hq4p3 hg4p3_va4p3_0 hL4p3
  unfold yf
  obtain rfl:i4p3=q4p3_0.length:=yC hd4p3 hi4p3
  exact zP [.dec false] (Ai (lt_no' hd4p3 hq4p3) trivial) (by kernel_rfl)
 | cons x4p3 rest4p3 ih =>
  intro i4p3 va4p3_0 hd4p3 hi4p3 hz4p3_va4p3_0 hq4p3 hg4p3_va4p3_0 hL4p3
  have hlt4p3:=zl hd4p3
  unfold yf
  have p1:=(idx_row (C:=cfg) (nxt:=4) (t:=22) (ty:=ty22) (te:=yw) (e:=25) (o:=2) (len:=(a.l++b.l).length) (sz:=2) (cap:=none) (i:=((i4p3:Nat):Int)) (by kernel_rfl) rfl (by kernel_rfl) rfl (by omega) (by omega))
  have p2:=(load_row (C:=cfg) (objs:=[(2,⟨q4p3_0.map Sn.D,2,false⟩),(3,⟨va4p3_0.map Sn.D,2,false⟩)]) (nxt:=4) (t:=25) (ty:=yw) (o:=2) (n:=i4p3) (sz:=2) (sub:=0) (ob:=⟨q4p3_0.map Sn.D,2,false⟩) (e:=Sn.D x4p3) (d:=.agg [I x4p3.lo,I x4p3.hi]) (by kernel_rfl) (by kernel_rfl) rfl (row_at (f:=Sn.D) hd4p3) (by kernel_rfl))
  cases h27:(zn x4p3.lo) with
  | true =>
   cases h28:(zn x4p3.hi) with
   | true =>
    cases h29:decide (((va4p3_0.length:Nat):Int) > 0) with
    | true =>
     have g29:=of_decide_eq_true h29
     have p3:=(idx_row (C:=cfg) (nxt:=5) (t:=23) (ty:=ty23) (te:=yw) (e:=25) (o:=3) (len:=va4p3_0.length) (sz:=2) (cap:=none) (i:=w64 (((va4p3_0.length:Nat):Int) - 1)) (by kernel_rfl) rfl (by kernel_rfl) rfl (by simp only [List.length_append,List.length_cons,List.length_nil,zo] at * <;> omega) (by simp only [List.length_append,List.length_cons,List.length_nil,zo] at * <;> omega))
     have p4:=(load_row (C:=cfg) (objs:=[(2,⟨q4p3_0.map Sn.D,2,false⟩),(3,⟨va4p3_0.map Sn.D,2,false⟩),(4,⟨[.agg [I x4p3.lo,I x4p3.hi]],2,false⟩)]) (nxt:=5) (t:=3) (ty:=ty3) (o:=3) (n:=(w64 (((va4p3_0.length:Nat):Int) - 1)).toNat) (sz:=2) (sub:=1) (ob:=⟨va4p3_0.map Sn.D,2,false⟩) (e:=Sn.D (va4p3_0.getD ((w64 (((va4p3_0.length:Nat):Int) - 1)).toNat) default)) (d:=I ((va4p3_0.getD ((w64 (((va4p3_0.length:Nat):Int) - 1)).toNat) default).hi)) (by kernel_rfl) (by kernel_rfl) rfl (row_get (f:=Sn.D) (by simp only [List.length_append,List.length_cons,List.length_nil,zo] at * <;> omega)) (by kernel_rfl))
     cases h30:decide (x4p3.lo≤(w64 (((va4p3_0.getD ((w64 (((va4p3_0.length:Nat):Int) - 1)).toNat) default).hi)+1))) with
     | true =>
      have g30:=of_decide_eq_true h30
      exact yg (ks:=[4,10,11,12]) (st':=(sd263 a b i4p3 q4p3_0 x4p3 va4p3_0)) ((ranges_gathered_4p3a_l_o1 i4p3 x4p3)++((ranges_gathered_4p3a_l_o2 x4p3 va4p3_0)++[.dec true,.op (some 48) ⟨.lref 3 ((w64 (((va4p3_0.length:Nat):Int) - 1)).toNat) 2 0,[],[],5⟩,.op (some 50) ⟨I ((va4p3_0.getD ((w64 (((va4p3_0.length:Nat):Int) - 1)).toNat) default).hi),[],[3],5⟩,.op (some 54) ⟨.lref 3 ((w64 (((va4p3_0.length:Nat):Int) - 1)).toNat) 2 0,[],[],5⟩,.stS 3 ⟨.tup [],[(3,some ⟨(va4p3_0.set ((w64 (((va4p3_0.length:Nat):Int) - 1)).toNat) (⟨(va4p3_0.getD ((w64 (((va4p3_0.length:Nat):Int) - 1)).toNat) default).lo,imax ((va4p3_0.getD ((w64 (((va4p3_0.length:Nat):Int) - 1)).toNat) default).hi) x4p3.hi⟩:Sn)).map Sn.D,2,false⟩)],[3],5⟩,.rw 60 (I ((i4p3+1:Nat):Int))])) (Ai (yE (i:=i4p3) (by have:=zl hd4p3; omega)) (Ai (store_row (C:=cfg) (objs:=[(2,⟨q4p3_0.map Sn.D,2,false⟩),(3,⟨va4p3_0.map Sn.D,2,false⟩),(4,⟨[.agg [I x4p3.lo,I x4p3.hi]],2,false⟩)]) (nxt:=5) (t:=3) (ty:=ty3) (o:=3) (n:=(w64 (((va4p3_0.length:Nat):Int) - 1)).toNat) (sz:=2) (sub:=1) (els:=va4p3_0.map Sn.D) (els':=(va4p3_0.set ((w64 (((va4p3_0.length:Nat):Int) - 1)).toNat) (⟨(va4p3_0.getD ((w64 (((va4p3_0.length:Nat):Int) - 1)).toNat) default).lo,imax ((va4p3_0.getD ((w64 (((va4p3_0.length:Nat):Int) - 1)).toNat) default).hi) x4p3.hi⟩:Sn)).map Sn.D) (e:=Sn.D (va4p3_0.getD ((w64 (((va4p3_0.length:Nat):Int) - 1)).toNat) default)) (e':=Sn.D (⟨(va4p3_0.getD ((w64 (((va4p3_0.length:Nat):Int) - 1)).toNat) default).lo,imax ((va4p3_0.getD ((w64 (((va4p3_0.length:Nat):Int) - 1)).toNat) default).hi) x4p3.hi⟩:Sn)) (v:=I (imax ((va4p3_0.getD ((w64 (((va4p3_0.length:Nat):Int) - 1)).toNat) default).hi) x4p3.hi)) (by kernel_rfl) (by kernel_rfl) (row_get (f:=Sn.D) (by simp only [List.length_append,List.length_cons,List.length_nil,zo] at * <;> omega)) rfl (by kernel_rfl) rfl (by kernel_rfl) (row_set (f:=Sn.D))) (Ai (idx_row (C:=cfg) (nxt:=5) (t:=23) (ty:=ty23) (te:=yw) (e:=25) (o:=3) (len:=va4p3_0.length) (sz:=2) (cap:=none) (i:=w64 (((va4p3_0.length:Nat):Int) - 1)) (by kernel_rfl) rfl (by kernel_rfl) rfl (by simp only [List.length_append,List.length_cons,List.length_nil,zo] at * <;> omega) (by simp only [List.length_append,List.length_cons,List.length_nil,zo] at * <;> omega)) (Ai (load_row (C:=cfg) (objs:=[(2,⟨q4p3_0.map Sn.D,2,false⟩),(3,⟨va4p3_0.map Sn.D,2,false⟩),(4,⟨[.agg [I x4p3.lo,I x4p3.hi]],2,false⟩)]) (nxt:=5) (t:=3) (ty:=ty3) (o:=3) (n:=(w64 (((va4p3_0.length:Nat):Int) - 1)).toNat) (sz:=2) (sub:=1) (ob:=⟨va4p3_0.map Sn.D,2,false⟩) (e:=Sn.D (va4p3_0.getD ((w64 (((va4p3_0.length:Nat):Int) - 1)).toNat) default)) (d:=I ((va4p3_0.getD ((w64 (((va4p3_0.length:Nat):Int) - 1)).toNat) default).hi)) (by kernel_rfl) (by kernel_rfl) rfl (row_get (f:=Sn.D) (by simp only [List.length_append,List.length_cons,List.length_nil,zo] at * <;> omega)) (by kernel_rfl)) (Ai (idx_row (C:=cfg) (nxt:=5) (t:=23) (ty:=ty23) (te:=yw) (e:=25) (o:=3) (len:=va4p3_0.length) (sz:=2) (cap:=none) (i:=w64 (((va4p3_0.length:Nat):Int) - 1)) (by kernel_rfl) rfl (by kernel_rfl) rfl (by simp only [List.length_append,List.length_cons,List.length_nil,zo] at * <;> omega) (by simp only [List.length_append,List.length_cons,List.length_nil,zo] at * <;> omega)) (Ai h30 (Ai p4 (Ai p3 (Ai h29 (Ai h28 (Ai (zv x4p3.hi) (Ai h27 (Ai (zv x4p3.lo) (Ai p2 (Ai p1 (Ai (lt_at' hd4p3 hq4p3) trivial)))))))))))))))) (by kernel_rfl) (by (simp only [sd263,go_sem,List.length_set,Nat.reduceAdd,Nat.reduceEqDiff,Nat.reduceLT,Nat.reduceLeDiff,bI2,zf.idsL,zf.renL,zf.snapAll,z7.idsL,z7.renL,z7.snapAll]) <;> rfl) (ih (i4p3+1) (va4p3_0.set ((w64 (((va4p3_0.length:Nat):Int) - 1)).toNat) (⟨(va4p3_0.getD ((w64 (((va4p3_0.length:Nat):Int) - 1)).toNat) default).lo,imax ((va4p3_0.getD ((w64 (((va4p3_0.length:Nat):Int) - 1)).toNat) default).hi) x4p3.hi⟩:Sn)) (zr hd4p3) (zl hd4p3) (by simp only [List.length_set] at * <;> omega) (by omega) (by simp only [List.length_set] at * <;> omega) (by omega)) (by kernel_rfl)
     | false =>
      have g30:=of_decide_eq_false h30
      exact yg (ks:=[4,10,11,12]) (st':=(sd264 a b i4p3 q4p3_0 x4p3 va4p3_0)) ((ranges_gathered_4p3a_l_o1 i4p3 x4p3)++((ranges_gathered_4p3a_l_o2 x4p3 va4p3_0)++[.dec false,.op (some 59) ⟨.lsl 6 0 ((va4p3_0++[x4p3]).length) 2 none,[(3,none),(6,some ⟨(va4p3_0++[x4p3]).map Sn.D,2,false⟩)],[3,5],7⟩,.rw 60 (I ((i4p3+1:Nat):Int))])) (Ai (yE (i:=i4p3) (by have:=zl hd4p3; omega)) (Ai (app_row (f:=Sn.D) (te:=yw) (gO:=zF [(2,⟨q4p3_0.map Sn.D,2,false⟩),(3,⟨va4p3_0.map Sn.D,2,false⟩),(4,⟨[.agg [I x4p3.lo,I x4p3.hi]],2,false⟩),(5,⟨[.agg [I x4p3.lo,I x4p3.hi]],2,false⟩)]) (nxt:=6) (o:=3) (o2:=5) (fz:=false) z7 va4p3_0 x4p3 (by kernel_rfl) (by kernel_rfl) rfl (by kernel_rfl) (by decide) ⟨by simp only [yw,big] <;> (first | assumption | omega | (exact yh (by omega) (by omega)) | (exact zT (by omega)) | (exact zK (by omega)) | (exact zU (by omega)) | (exact zM (by omega)) | (exact zB _ (by omega)) | (simp only [zo] at * <;> omega) | (simp only [zG,GS.some_l,List.length_set,List.length_append,List.length_cons,List.length_nil] at * <;> first | with_reducible assumption | omega) | (simp only [zG,GS.some_l,List.length_set,List.length_append,List.length_cons,List.length_nil,zo] at * <;> first | with_reducible assumption | omega) | (simp at * <;> omega)),by simp only [big] <;> (first | assumption | omega | (exact yh (by omega) (by omega)) | (exact zT (by omega)) | (exact zK (by omega)) | (exact zU (by omega)) | (exact zM (by omega)) | (exact zB _ (by omega)) | (simp only [zo] at * <;> omega) | (simp only [zG,GS.some_l,List.length_set,List.length_append,List.length_cons,List.length_nil] at * <;> first | with_reducible assumption | omega) | (simp only [zG,GS.some_l,List.length_set,List.length_append,List.length_cons,List.length_nil,zo] at * <;> first | with_reducible assumption | omega) | (simp at * <;> omega))⟩) (Ai h30 (Ai p4 (Ai p3 (Ai h29 (Ai h28 (Ai (zv x4p3.hi) (Ai h27 (Ai (zv x4p3.lo) (Ai p2 (Ai p1 (Ai (lt_at' hd4p3 hq4p3) trivial))))))))))))) (by kernel_rfl) (by (simp only [sd264,go_sem,List.length_set,Nat.reduceAdd,Nat.reduceEqDiff,Nat.reduceLT,Nat.reduceLeDiff,bI2,zf.idsL,zf.renL,zf.snapAll,z7.idsL,z7.renL,z7.snapAll]) <;> rfl) (ih (i4p3+1) (va4p3_0++[x4p3]) (zr hd4p3) (zl hd4p3) (by simp only [List.length_append,List.length_cons,List.length_nil] at * <;> omega) (by omega) (by simp only [List.length_append,List.length_cons,List.length_nil] at * <;> omega) (by omega)) (by kernel_rfl)
    | false =>
     have g29:=of_decide_eq_false h29
     exact yg (ks:=[4,10,11,12]) (st':=(sd265 a b i4p3 q4p3_0 x4p3 va4p3_0)) ((ranges_gathered_4p3a_l_o1 i4p3 x4p3)++[.dec true,.pure (B (zn x4p3.hi)),.dec true,.dec false,.op (some 59) ⟨.lsl 6 0 ((va4p3_0++[x4p3]).length) 2 none,[(3,none),(6,some ⟨(va4p3_0++[x4p3]).map Sn.D,2,false⟩)],[3,5],7⟩,.rw 60 (I ((i4p3+1:Nat):Int))]) (Ai (yE (i:=i4p3) (by have:=zl hd4p3; omega)) (Ai (app_row (f:=Sn.D) (te:=yw) (gO:=zF [(2,⟨q4p3_0.map Sn.D,2,false⟩),(3,⟨va4p3_0.map Sn.D,2,false⟩),(4,⟨[.agg [I x4p3.lo,I x4p3.hi]],2,false⟩),(5,⟨[.agg [I x4p3.lo,I x4p3.hi]],2,false⟩)]) (nxt:=6) (o:=3) (o2:=5) (fz:=false) z7 va4p3_0 x4p3 (by kernel_rfl) (by kernel_rfl) rfl (by kernel_rfl) (by decide) ⟨by simp only [yw,big] <;> (first | assumption | omega | (exact yh (by omega) (by omega)) | (exact zT (by omega)) | (exact zK (by omega)) | (exact zU (by omega)) | (exact zM (by omega)) | (exact zB _ (by omega)) | (simp only [zo] at * <;> omega) | (simp only [zG,GS.some_l,List.length_set,List.length_append,List.length_cons,List.length_nil] at * <;> first | with_reducible assumption | omega) | (simp only [zG,GS.some_l,List.length_set,List.length_append,List.length_cons,List.length_nil,zo] at * <;> first | with_reducible assumption | omega) | (simp at * <;> omega)),by simp only [big] <;> (first | assumption | omega | (exact yh (by omega) (by omega)) | (exact zT (by omega)) | (exact zK (by omega)) | (exact zU (by omega)) | (exact zM (by omega)) | (exact zB _ (by omega)) | (simp only [zo] at * <;> omega) | (simp only [zG,GS.some_l,List.length_set,List.length_append,List.length_cons,List.length_nil] at * <;> first | with_reducible assumption | omega) | (simp only [zG,GS.some_l,List.length_set,List.length_append,List.length_cons,List.length_nil,zo] at * <;> first | with_reducible assumption | omega) | (simp at * <;> omega))⟩) (Ai h29 (Ai h28 (Ai (zv x4p3.hi) (Ai h27 (Ai (zv x4p3.lo) (Ai p2 (Ai p1 (Ai (lt_at' hd4p3 hq4p3) trivial)))))))))) (by kernel_rfl) (by (simp only [sd265,go_sem,List.length_set,Nat.reduceAdd,Nat.reduceEqDiff,Nat.reduceLT,Nat.reduceLeDiff,bI2,zf.idsL,zf.renL,zf.snapAll,z7.idsL,z7.renL,z7.snapAll]) <;> rfl) (ih (i4p3+1) (va4p3_0++[x4p3]) (zr hd4p3) (zl hd4p3) (by omega) (by omega) (by omega) (by omega)) (by kernel_rfl)
   | false =>
    exact zP ((ranges_gathered_4p3a_l_o1 i4p3 x4p3)++[.dec true,.pure (B (zn x4p3.hi)),.dec false]) (Ai h28 (Ai (zv x4p3.hi) (Ai h27 (Ai (zv x4p3.lo) (Ai p2 (Ai p1 (Ai (lt_at' hd4p3 hq4p3) trivial))))))) (by kernel_rfl)
  | false =>
   exact zP ((ranges_gathered_4p3a_l_o1 i4p3 x4p3)++[.dec false]) (Ai h27 (Ai (zv x4p3.lo) (Ai p2 (Ai p1 (Ai (lt_at' hd4p3 hq4p3) trivial))))) (by kernel_rfl)
theorem ivt_ranges_gathered_4p3a (a:GS Sn) (b:GS Sn) (q4p3_0:List Sn):∀ (rest4p3:List Sn) (i4p3:Nat) (va4p3_0:List Sn) (hd4p3:q4p3_0.drop i4p3=rest4p3) (hi4p3:i4p3≤q4p3_0.length) (hz4p3_va4p3_0:1≤va4p3_0.length) (hq4p3:q4p3_0.length=(a.l++b.l).length) (hg4p3_va4p3_0:va4p3_0.length≤i4p3) (hL4p3:q4p3_0.length≤1099511627776),iv_ranges_gathered_4p3 a b q4p3_0 (yf rest4p3 i4p3 va4p3_0):=by
 intro rest4p3
 induction rest4p3 with
 | nil =>
  intro i4p3 va4p3_0 hd4p3 hi4p3 hz4p3_va4p3_0 hq4p3 hg4p3_va4p3_0 hL4p3
  unfold yf
  obtain rfl:i4p3=q4p3_0.length:=yC hd4p3 hi4p3
  exact ⟨hz4p3_va4p3_0,hg4p3_va4p3_0⟩
 | cons x4p3 rest4p3 ih =>
  intro i4p3 va4p3_0 hd4p3 hi4p3 hz4p3_va4p3_0 hq4p3 hg4p3_va4p3_0 hL4p3
  have hlt4p3:=zl hd4p3
  unfold yf
  cases h27:(zn x4p3.lo) with
  | true =>
   cases h28:(zn x4p3.hi) with
   | true =>
    cases h29:decide (((va4p3_0.length:Nat):Int) > 0) with
    | true =>
     have g29:=of_decide_eq_true h29
     cases h30:decide (x4p3.lo≤(w64 (((va4p3_0.getD ((w64 (((va4p3_0.length:Nat):Int) - 1)).toNat) default).hi)+1))) with
     | true =>
      have g30:=of_decide_eq_true h30
      exact ih (i4p3+1) (va4p3_0.set ((w64 (((va4p3_0.length:Nat):Int) - 1)).toNat) (⟨(va4p3_0.getD ((w64 (((va4p3_0.length:Nat):Int) - 1)).toNat) default).lo,imax ((va4p3_0.getD ((w64 (((va4p3_0.length:Nat):Int) - 1)).toNat) default).hi) x4p3.hi⟩:Sn)) (zr hd4p3) (zl hd4p3) (by simp only [List.length_set] at * <;> omega) (by omega) (by simp only [List.length_set] at * <;> omega) (by omega)
     | false =>
      have g30:=of_decide_eq_false h30
      exact ih (i4p3+1) (va4p3_0++[x4p3]) (zr hd4p3) (zl hd4p3) (by simp only [List.length_append,List.length_cons,List.length_nil] at * <;> omega) (by omega) (by simp only [List.length_append,List.length_cons,List.length_nil] at * <;> omega) (by omega)
    | false =>
     have g29:=of_decide_eq_false h29
     exact ih (i4p3+1) (va4p3_0++[x4p3]) (zr hd4p3) (zl hd4p3) (by omega) (by omega) (by omega) (by omega)
   | false =>
    exact ⟨hz4p3_va4p3_0,hg4p3_va4p3_0⟩
  | false =>
   exact ⟨hz4p3_va4p3_0,hg4p3_va4p3_0⟩
def ranges_gathered_4p3_l_o1 (i4p3:Nat) (x4p3:Sn):List Ora:=[.dec true,.op (some 14) ⟨.lref 2 i4p3 2 0,[],[],3⟩,.op (some 15) ⟨.agg [I x4p3.lo,I x4p3.hi],[],[2],3⟩,.pure (B (zn x4p3.lo))]
theorem lp_ranges_gathered_4p3 (a:GS Sn) (b:GS Sn) (q4p3_0:List Sn):∀ (rest4p3:List Sn) (i4p3:Nat) (hd4p3:q4p3_0.drop i4p3=rest4p3) (hi4p3:i4p3≤q4p3_0.length) (hq4p3:q4p3_0.length=(a.l++b.l).length) (hL4p3:q4p3_0.length≤1099511627776),(lim cfg).loop 69 lp69_4 ⟨65,[(4,.sl true [] 0 none),(10,.lsl 2 0 ((a.l++b.l).length) 2 none),(11,I (((a.l++b.l).length:Nat):Int)),(12,I ((i4p3:Nat):Int))],[(2,⟨q4p3_0.map Sn.D,2,false⟩)],3,3⟩=some (lr_ranges_gathered_4p3 a b q4p3_0 (yt rest4p3 i4p3)):=by
 intro rest4p3
 induction rest4p3 with
 | nil =>
  intro i4p3 hd4p3 hi4p3 hq4p3 hL4p3
  unfold yt
  obtain rfl:i4p3=q4p3_0.length:=yC hd4p3 hi4p3
  exact zP [.dec false] (Ai (lt_no' hd4p3 hq4p3) trivial) (by kernel_rfl)
 | cons x4p3 rest4p3 ih =>
  intro i4p3 hd4p3 hi4p3 hq4p3 hL4p3
  have hlt4p3:=zl hd4p3
  unfold yt
  dsimp only
  have p1:=(idx_row (C:=cfg) (nxt:=3) (t:=22) (ty:=ty22) (te:=yw) (e:=25) (o:=2) (len:=(a.l++b.l).length) (sz:=2) (cap:=none) (i:=((i4p3:Nat):Int)) (by kernel_rfl) rfl (by kernel_rfl) rfl (by omega) (by omega))
  have p2:=(load_row (C:=cfg) (objs:=[(2,⟨q4p3_0.map Sn.D,2,false⟩)]) (nxt:=3) (t:=25) (ty:=yw) (o:=2) (n:=i4p3) (sz:=2) (sub:=0) (ob:=⟨q4p3_0.map Sn.D,2,false⟩) (e:=Sn.D x4p3) (d:=.agg [I x4p3.lo,I x4p3.hi]) (by kernel_rfl) (by kernel_rfl) rfl (row_at (f:=Sn.D) hd4p3) (by kernel_rfl))
  cases h31:(zn x4p3.lo) with
  | true =>
   cases h32:(zn x4p3.hi) with
   | true =>
    exact yg (ks:=[4,10,11,12]) (st':=(sd266 a b i4p3 q4p3_0 x4p3)) ((ranges_gathered_4p3_l_o1 i4p3 x4p3)++[.dec true,.pure (B (zn x4p3.hi)),.dec true,.dec false,.rw 60 (I ((i4p3+1:Nat):Int))]) (Ai (yE (i:=i4p3) (by have:=zl hd4p3; omega)) (Ai (Eq.refl false) (Ai h32 (Ai (zv x4p3.hi) (Ai h31 (Ai (zv x4p3.lo) (Ai p2 (Ai p1 (Ai (lt_at' hd4p3 hq4p3) trivial))))))))) (by kernel_rfl) (by (simp only [sd266,go_sem,List.length_set,Nat.reduceAdd,Nat.reduceEqDiff,Nat.reduceLT,Nat.reduceLeDiff,bI2,zf.idsL,zf.renL,zf.snapAll,z7.idsL,z7.renL,z7.snapAll]) <;> rfl) (lp_ranges_gathered_4p3a a b q4p3_0 _ (i4p3+1) [x4p3] (zr hd4p3) (zl hd4p3) (by simp only [List.length_append,List.length_cons,List.length_nil] at * <;> omega) (by omega) (by simp only [List.length_append,List.length_cons,List.length_nil] at * <;> omega) (by omega)) (by kernel_rfl)
   | false =>
    exact zP ((ranges_gathered_4p3_l_o1 i4p3 x4p3)++[.dec true,.pure (B (zn x4p3.hi)),.dec false]) (Ai h32 (Ai (zv x4p3.hi) (Ai h31 (Ai (zv x4p3.lo) (Ai p2 (Ai p1 (Ai (lt_at' hd4p3 hq4p3) trivial))))))) (by kernel_rfl)
  | false =>
   exact zP ((ranges_gathered_4p3_l_o1 i4p3 x4p3)++[.dec false]) (Ai h31 (Ai (zv x4p3.lo) (Ai p2 (Ai p1 (Ai (lt_at' hd4p3 hq4p3) trivial))))) (by kernel_rfl)
theorem ivt_ranges_gathered_4p3 (a:GS Sn) (b:GS Sn) (q4p3_0:List Sn):∀ (rest4p3:List Sn) (i4p3:Nat) (hd4p3:q4p3_0.drop i4p3=rest4p3) (hi4p3:i4p3≤q4p3_0.length) (hq4p3:q4p3_0.length=(a.l++b.l).length) (hL4p3:q4p3_0.length≤1099511627776),iv_ranges_gathered_4p3 a b q4p3_0 (yt rest4p3 i4p3):=by
 intro rest4p3
 induction rest4p3 with
 | nil =>
  intro i4p3 hd4p3 hi4p3 hq4p3 hL4p3
  unfold yt
  obtain rfl:i4p3=q4p3_0.length:=yC hd4p3 hi4p3
  exact trivial
 | cons x4p3 rest4p3 ih =>
  intro i4p3 hd4p3 hi4p3 hq4p3 hL4p3
  have hlt4p3:=zl hd4p3
  unfold yt
  dsimp only
  cases h31:(zn x4p3.lo) with
  | true =>
   cases h32:(zn x4p3.hi) with
   | true =>
    exact ivt_ranges_gathered_4p3a a b q4p3_0 _ (i4p3+1) [x4p3] (zr hd4p3) (zl hd4p3) (by simp only [List.length_append,List.length_cons,List.length_nil] at * <;> omega) (by omega) (by simp only [List.length_append,List.length_cons,List.length_nil] at * <;> omega) (by omega)
   | false =>
    exact trivial
  | false =>
   exact trivial

def zi (a:GS Sn) (b:GS Sn):(GS Sn) × Int :=
 bif ((y7 (GS.some [a,b])) != 0) then
  (GS.nil,(y7 (GS.some [a,b])))
 else
  bif decide (((a.l.length+b.l.length:Nat):Int) > 0) then
   bif a.l.isEmpty then
    match yc (zq zp b.l) 0 with
    | .x0 va4p2_0 =>
     bif decide (((va4p2_0.length:Nat):Int) > 64) then
      (GS.nil,2)
     else
      (GS.some va4p2_0,0)
    | .x1 i4p2 x4p2 va4p2_0 =>
     (GS.nil,2)
    | .x2 i4p2 x4p2 va4p2_0 =>
     (GS.nil,2)
    | .x3 =>
     (GS.nil,0)
    | .x4 i4p2 x4p2 =>
     (GS.nil,2)
    | .x5 i4p2 x4p2 =>
     (GS.nil,2)
   else
    bif b.l.isEmpty then
     match yc (zq zp a.l) 0 with
     | .x0 va4p2_0 =>
      bif decide (((va4p2_0.length:Nat):Int) > 64) then
       (GS.nil,2)
      else
       (GS.some va4p2_0,0)
     | .x1 i4p2 x4p2 va4p2_0 =>
      (GS.nil,2)
     | .x2 i4p2 x4p2 va4p2_0 =>
      (GS.nil,2)
     | .x3 =>
      (GS.nil,0)
     | .x4 i4p2 x4p2 =>
      (GS.nil,2)
     | .x5 i4p2 x4p2 =>
      (GS.nil,2)
    else
     match yt (zq zp (a.l++b.l)) 0 with
     | .x0 va4p3_0 =>
      bif decide (((va4p3_0.length:Nat):Int) > 64) then
       (GS.nil,2)
      else
       (GS.some va4p3_0,0)
     | .x1 i4p3 x4p3 va4p3_0 =>
      (GS.nil,2)
     | .x2 i4p3 x4p3 va4p3_0 =>
      (GS.nil,2)
     | .x3 =>
      (GS.nil,0)
     | .x4 i4p3 x4p3 =>
      (GS.nil,2)
     | .x5 i4p3 x4p3 =>
      (GS.nil,2)
  else
   (GS.nil,0)

def ranges_Union_o1 (a:GS Sn) (b:GS Sn):List Ora:=[.pure (I (y7 (GS.some [a,b]))),.dec false,.inl (.lsl 2 0 b.l.length 2 none) [(1,⟨[.sl a.nl (a.l.map Sn.D) (zsl a.nl 2) none,.sl b.nl (b.l.map Sn.D) (zsl b.nl 2) none],1,false⟩),(2,⟨b.l.map Sn.D,2,false⟩)] 3]

def ranges_Union_o2 (a:GS Sn) (b:GS Sn):List Ora:=[.pure (I (y7 (GS.some [a,b]))),.dec false,.inl (.lsl 2 0 a.l.length 2 none) [(1,⟨[.sl a.nl (a.l.map Sn.D) (zsl a.nl 2) none,.sl b.nl (b.l.map Sn.D) (zsl b.nl 2) none],1,false⟩),(2,⟨a.l.map Sn.D,2,false⟩)] 3]

def ranges_Union_o3 (a:GS Sn) (b:GS Sn):List Ora:=[.pure (I (y7 (GS.some [a,b]))),.dec false,.inl (.lsl 2 0 ((a.l++b.l).length) 2 none) [(1,⟨[.sl a.nl (a.l.map Sn.D) (zsl a.nl 2) none,.sl b.nl (b.l.map Sn.D) (zsl b.nl 2) none],1,false⟩),(2,⟨(a.l++b.l).map Sn.D,2,false⟩)] 3]

noncomputable def lp96_3:Code:=subC [1,1,0,1,0,0] (bodyC Tryz.f96)

def sd223 (a:GS Sn) (b:GS Sn):St:=⟨36,[(0,.lsl 1 0 2 1 (some 2)),(3,I ((a.l.length:Nat):Int)),(9,.lsl 1 0 2 1 (some 2)),(10,I 2),(11,I 1)],[(1,⟨[.sl a.nl (a.l.map Sn.D) (zsl a.nl 2) none,.sl b.nl (b.l.map Sn.D) (zsl b.nl 2) none],1,false⟩)],2,2⟩

def sd222 (a:GS Sn) (b:GS Sn):St:=⟨36,[(0,.lsl 1 0 2 1 (some 2)),(3,I 0),(9,.lsl 1 0 2 1 (some 2)),(10,I 2),(11,I 0)],[(1,⟨[.sl a.nl (a.l.map Sn.D) (zsl a.nl 2) none,.sl b.nl (b.l.map Sn.D) (zsl b.nl 2) none],1,false⟩)],2,2⟩

def sd224 (a:GS Sn) (b:GS Sn):St:=⟨36,[(0,.lsl 1 0 2 1 (some 2)),(3,I ((a.l.length+b.l.length:Nat):Int)),(9,.lsl 1 0 2 1 (some 2)),(10,I 2),(11,I 2)],[(1,⟨[.sl a.nl (a.l.map Sn.D) (zsl a.nl 2) none,.sl b.nl (b.l.map Sn.D) (zsl b.nl 2) none],1,false⟩)],2,2⟩

noncomputable def lp96_11:Code:=subC [1,1,1,1,0,1,0,0] (bodyC Tryz.f96)

def sd227 (a:GS Sn) (b:GS Sn):St:=⟨36,[(6,.lsl 2 0 0 2 none),(25,.lsl 1 0 2 1 (some 2)),(26,I 2),(27,I 1)],[(1,⟨[.sl a.nl (a.l.map Sn.D) (zsl a.nl 2) none,.sl b.nl (b.l.map Sn.D) (zsl b.nl 2) none],1,false⟩),(2,⟨(List.replicate (a.l.length+b.l.length) (⟨0,0⟩:Sn)).map Sn.D,2,false⟩)],3,2⟩

def sd226 (a:GS Sn) (b:GS Sn):St:=⟨36,[(6,.lsl 2 0 0 2 none),(25,.lsl 1 0 2 1 (some 2)),(26,I 2),(27,I 0)],[(1,⟨[.sl a.nl (a.l.map Sn.D) (zsl a.nl 2) none,.sl b.nl (b.l.map Sn.D) (zsl b.nl 2) none],1,false⟩),(2,⟨(List.replicate (a.l.length+b.l.length) (⟨0,0⟩:Sn)).map Sn.D,2,false⟩)],3,2⟩

def sd228 (a:GS Sn) (b:GS Sn):St:=⟨36,[(27,I 1),(34,I 1),(6,.lsl 2 0 0 2 none),(33,.lsl 2 0 0 2 none),(32,.sl a.nl (a.l.map Sn.D) (zsl a.nl 2) none),(31,.lsl 2 0 0 2 none),(8,.sl a.nl (a.l.map Sn.D) (zsl a.nl 2) none),(30,.sl a.nl (a.l.map Sn.D) (zsl a.nl 2) none),(29,.lref 1 0 1 0),(28,B true),(6,.lsl 2 0 0 2 none),(25,.lsl 1 0 2 1 (some 2)),(26,I 2),(27,I 0)],[(1,⟨[.sl a.nl (a.l.map Sn.D) (zsl a.nl 2) none,.sl b.nl (b.l.map Sn.D) (zsl b.nl 2) none],1,false⟩),(2,⟨(List.replicate (a.l.length+b.l.length) (⟨0,0⟩:Sn)).map Sn.D,2,false⟩)],3,2⟩

def sd229 (a:GS Sn) (b:GS Sn):St:=⟨36,[(6,.lsl 2 0 b.l.length 2 none),(25,.lsl 1 0 2 1 (some 2)),(26,I 2),(27,I 2)],[(1,⟨[.sl a.nl (a.l.map Sn.D) (zsl a.nl 2) none,.sl b.nl (b.l.map Sn.D) (zsl b.nl 2) none],1,false⟩),(2,⟨b.l.map Sn.D,2,false⟩)],3,2⟩

def sd230 (a:GS Sn) (b:GS Sn):St:=⟨36,[(27,I 2),(34,I 2),(6,.lsl 2 0 b.l.length 2 none),(33,.lsl 2 0 b.l.length 2 none),(32,.sl b.nl (b.l.map Sn.D) (zsl b.nl 2) none),(31,.lsl 2 0 0 2 none),(8,.sl b.nl (b.l.map Sn.D) (zsl b.nl 2) none),(30,.sl b.nl (b.l.map Sn.D) (zsl b.nl 2) none),(29,.lref 1 1 1 0),(28,B true),(6,.lsl 2 0 0 2 none),(25,.lsl 1 0 2 1 (some 2)),(26,I 2),(27,I 1)],[(1,⟨[.sl a.nl (a.l.map Sn.D) (zsl a.nl 2) none,.sl b.nl (b.l.map Sn.D) (zsl b.nl 2) none],1,false⟩),(2,⟨b.l.map Sn.D,2,false⟩)],3,2⟩

def sd225 (a:GS Sn) (b:GS Sn):St:=⟨36,[(12,B false),(0,.lsl 1 0 2 1 (some 2)),(3,I ((a.l.length+b.l.length:Nat):Int)),(9,.lsl 1 0 2 1 (some 2)),(10,I 2),(11,I 2)],[(1,⟨[.sl a.nl (a.l.map Sn.D) (zsl a.nl 2) none,.sl b.nl (b.l.map Sn.D) (zsl b.nl 2) none],1,false⟩)],2,2⟩

def sd231 (a:GS Sn) (b:GS Sn):St:=⟨36,[(28,B false),(6,.lsl 2 0 b.l.length 2 none),(25,.lsl 1 0 2 1 (some 2)),(26,I 2),(27,I 2)],[(1,⟨[.sl a.nl (a.l.map Sn.D) (zsl a.nl 2) none,.sl b.nl (b.l.map Sn.D) (zsl b.nl 2) none],1,false⟩),(2,⟨b.l.map Sn.D,2,false⟩)],3,2⟩

def sd232 (a:GS Sn) (b:GS Sn):St:=⟨36,[(27,I 0),(26,I 2),(25,.lsl 1 0 2 1 (some 2)),(6,.lsl 2 0 0 2 none),(24,.lsl 2 0 0 2 none),(23,I ((a.l.length+b.l.length:Nat):Int)),(12,B false),(0,.lsl 1 0 2 1 (some 2)),(3,I ((a.l.length+b.l.length:Nat):Int)),(9,.lsl 1 0 2 1 (some 2)),(10,I 2),(11,I 2)],[(1,⟨[.sl a.nl (a.l.map Sn.D) (zsl a.nl 2) none,.sl b.nl (b.l.map Sn.D) (zsl b.nl 2) none],1,false⟩),(2,⟨(List.replicate (a.l.length+b.l.length) (⟨0,0⟩:Sn)).map Sn.D,2,false⟩)],3,2⟩

def sd238 (b:GS Sn):St:=⟨65,[(4,.sl true [] 0 none),(10,.lsl 2 0 b.l.length 2 none),(11,I ((b.l.length:Nat):Int)),(12,I 0)],[(2,⟨(zq zp b.l).map Sn.D,2,false⟩)],3,3⟩

def sd239 (b:GS Sn) (va4p2_0:List Sn):St:=⟨65,[(13,B false),(4,.lsl 3 0 va4p2_0.length 2 none),(10,.lsl 2 0 b.l.length 2 none),(11,I ((b.l.length:Nat):Int)),(12,I (((zq zp b.l).length:Nat):Int))],[(2,⟨(zq zp b.l).map Sn.D,2,false⟩),(3,⟨va4p2_0.map Sn.D,2,false⟩)],4,3⟩

def sd237 (b:GS Sn):St:=⟨65,[(12,I 0),(11,I ((b.l.length:Nat):Int)),(10,.lsl 2 0 b.l.length 2 none),(4,.sl true [] 0 none),(9,.tup []),(8,.lsl 2 0 b.l.length 2 none),(3,I 0),(2,.sl true [] 0 none),(0,.lsl 2 0 b.l.length 2 none)],[(2,⟨(zq zp b.l).map Sn.D,2,false⟩)],3,3⟩

def sd240 (b:GS Sn) (i4p2:Nat) (x4p2:Sn) (va4p2_0:List Sn):St:=⟨65,[(3,I 2),(2,.sl true [] 0 none),(25,B true),(24,B true),(23,B false),(22,I x4p2.hi),(21,.lref 4 0 2 1),(20,B false),(19,B false),(18,B true),(17,I x4p2.lo),(16,.lref 4 0 2 0),(6,.lref 4 0 2 0),(15,.agg [I x4p2.lo,I x4p2.hi]),(14,.lref 2 i4p2 2 0),(13,B true),(4,.lsl 3 0 va4p2_0.length 2 none),(10,.lsl 2 0 b.l.length 2 none),(11,I ((b.l.length:Nat):Int)),(12,I ((i4p2:Nat):Int))],[(2,⟨(zq zp b.l).map Sn.D,2,false⟩),(3,⟨va4p2_0.map Sn.D,2,false⟩),(4,⟨[.agg [I x4p2.lo,I x4p2.hi]],2,false⟩)],5,3⟩

def sd241 (b:GS Sn) (i4p2:Nat) (x4p2:Sn) (va4p2_0:List Sn):St:=⟨65,[(3,I 2),(2,.sl true [] 0 none),(25,B true),(24,.tup []),(23,.tup []),(22,.tup []),(21,.tup []),(20,B true),(19,B true),(18,B false),(17,I x4p2.lo),(16,.lref 4 0 2 0),(6,.lref 4 0 2 0),(15,.agg [I x4p2.lo,I x4p2.hi]),(14,.lref 2 i4p2 2 0),(13,B true),(4,.lsl 3 0 va4p2_0.length 2 none),(10,.lsl 2 0 b.l.length 2 none),(11,I ((b.l.length:Nat):Int)),(12,I ((i4p2:Nat):Int))],[(2,⟨(zq zp b.l).map Sn.D,2,false⟩),(3,⟨va4p2_0.map Sn.D,2,false⟩),(4,⟨[.agg [I x4p2.lo,I x4p2.hi]],2,false⟩)],5,3⟩

def sd242 (b:GS Sn):St:=⟨65,[(13,B false),(4,.sl true [] 0 none),(10,.lsl 2 0 b.l.length 2 none),(11,I ((b.l.length:Nat):Int)),(12,I (((zq zp b.l).length:Nat):Int))],[(2,⟨(zq zp b.l).map Sn.D,2,false⟩)],3,3⟩

def sd243 (b:GS Sn) (i4p2:Nat) (x4p2:Sn):St:=⟨65,[(3,I 2),(2,.sl true [] 0 none),(25,B true),(24,B true),(23,B false),(22,I x4p2.hi),(21,.lref 3 0 2 1),(20,B false),(19,B false),(18,B true),(17,I x4p2.lo),(16,.lref 3 0 2 0),(6,.lref 3 0 2 0),(15,.agg [I x4p2.lo,I x4p2.hi]),(14,.lref 2 i4p2 2 0),(13,B true),(4,.sl true [] 0 none),(10,.lsl 2 0 b.l.length 2 none),(11,I ((b.l.length:Nat):Int)),(12,I ((i4p2:Nat):Int))],[(2,⟨(zq zp b.l).map Sn.D,2,false⟩),(3,⟨[.agg [I x4p2.lo,I x4p2.hi]],2,false⟩)],4,3⟩

def sd244 (b:GS Sn) (i4p2:Nat) (x4p2:Sn):St:=⟨65,[(3,I 2),(2,.sl true [] 0 none),(25,B true),(24,.tup []),(23,.tup []),(22,.tup []),(21,.tup []),(20,B true),(19,B true),(18,B false),(17,I x4p2.lo),(16,.lref 3 0 2 0),(6,.lref 3 0 2 0),(15,.agg [I x4p2.lo,I x4p2.hi]),(14,.lref 2 i4p2 2 0),(13,B true),(4,.sl true [] 0 none),(10,.lsl 2 0 b.l.length 2 none),(11,I ((b.l.length:Nat):Int)),(12,I ((i4p2:Nat):Int))],[(2,⟨(zq zp b.l).map Sn.D,2,false⟩),(3,⟨[.agg [I x4p2.lo,I x4p2.hi]],2,false⟩)],4,3⟩

def sd245 (a:GS Sn) (b:GS Sn):St:=⟨36,[(6,.lsl 2 0 a.l.length 2 none),(25,.lsl 1 0 2 1 (some 2)),(26,I 2),(27,I 1)],[(1,⟨[.sl a.nl (a.l.map Sn.D) (zsl a.nl 2) none,.sl b.nl (b.l.map Sn.D) (zsl b.nl 2) none],1,false⟩),(2,⟨a.l.map Sn.D,2,false⟩)],3,2⟩

def sd246 (a:GS Sn) (b:GS Sn):St:=⟨36,[(27,I 1),(34,I 1),(6,.lsl 2 0 a.l.length 2 none),(33,.lsl 2 0 a.l.length 2 none),(32,.sl a.nl (a.l.map Sn.D) (zsl a.nl 2) none),(31,.lsl 2 0 0 2 none),(8,.sl a.nl (a.l.map Sn.D) (zsl a.nl 2) none),(30,.sl a.nl (a.l.map Sn.D) (zsl a.nl 2) none),(29,.lref 1 0 1 0),(28,B true),(6,.lsl 2 0 0 2 none),(25,.lsl 1 0 2 1 (some 2)),(26,I 2),(27,I 0)],[(1,⟨[.sl a.nl (a.l.map Sn.D) (zsl a.nl 2) none,.sl b.nl (b.l.map Sn.D) (zsl b.nl 2) none],1,false⟩),(2,⟨a.l.map Sn.D,2,false⟩)],3,2⟩

def sd247 (a:GS Sn) (b:GS Sn):St:=⟨36,[(6,.lsl 2 0 a.l.length 2 none),(25,.lsl 1 0 2 1 (some 2)),(26,I 2),(27,I 2)],[(1,⟨[.sl a.nl (a.l.map Sn.D) (zsl a.nl 2) none,.sl b.nl (b.l.map Sn.D) (zsl b.nl 2) none],1,false⟩),(2,⟨a.l.map Sn.D,2,false⟩)],3,2⟩

def sd248 (a:GS Sn) (b:GS Sn):St:=⟨36,[(27,I 2),(34,I 2),(6,.lsl 2 0 a.l.length 2 none),(33,.lsl 2 0 a.l.length 2 none),(32,.sl b.nl (b.l.map Sn.D) (zsl b.nl 2) none),(31,.lsl 2 0 a.l.length 2 none),(8,.sl b.nl (b.l.map Sn.D) (zsl b.nl 2) none),(30,.sl b.nl (b.l.map Sn.D) (zsl b.nl 2) none),(29,.lref 1 1 1 0),(28,B true),(6,.lsl 2 0 a.l.length 2 none),(25,.lsl 1 0 2 1 (some 2)),(26,I 2),(27,I 1)],[(1,⟨[.sl a.nl (a.l.map Sn.D) (zsl a.nl 2) none,.sl b.nl (b.l.map Sn.D) (zsl b.nl 2) none],1,false⟩),(2,⟨a.l.map Sn.D,2,false⟩)],3,2⟩

def sd249 (a:GS Sn) (b:GS Sn):St:=⟨36,[(28,B false),(6,.lsl 2 0 a.l.length 2 none),(25,.lsl 1 0 2 1 (some 2)),(26,I 2),(27,I 2)],[(1,⟨[.sl a.nl (a.l.map Sn.D) (zsl a.nl 2) none,.sl b.nl (b.l.map Sn.D) (zsl b.nl 2) none],1,false⟩),(2,⟨a.l.map Sn.D,2,false⟩)],3,2⟩

def sd251 (a:GS Sn):St:=⟨65,[(4,.sl true [] 0 none),(10,.lsl 2 0 a.l.length 2 none),(11,I ((a.l.length:Nat):Int)),(12,I 0)],[(2,⟨(zq zp a.l).map Sn.D,2,false⟩)],3,3⟩

def sd252 (a:GS Sn) (va4p2_0:List Sn):St:=⟨65,[(13,B false),(4,.lsl 3 0 va4p2_0.length 2 none),(10,.lsl 2 0 a.l.length 2 none),(11,I ((a.l.length:Nat):Int)),(12,I (((zq zp a.l).length:Nat):Int))],[(2,⟨(zq zp a.l).map Sn.D,2,false⟩),(3,⟨va4p2_0.map Sn.D,2,false⟩)],4,3⟩

def sd250 (a:GS Sn):St:=⟨65,[(12,I 0),(11,I ((a.l.length:Nat):Int)),(10,.lsl 2 0 a.l.length 2 none),(4,.sl true [] 0 none),(9,.tup []),(8,.lsl 2 0 a.l.length 2 none),(3,I 0),(2,.sl true [] 0 none),(0,.lsl 2 0 a.l.length 2 none)],[(2,⟨(zq zp a.l).map Sn.D,2,false⟩)],3,3⟩

def sd253 (a:GS Sn) (i4p2:Nat) (x4p2:Sn) (va4p2_0:List Sn):St:=⟨65,[(3,I 2),(2,.sl true [] 0 none),(25,B true),(24,B true),(23,B false),(22,I x4p2.hi),(21,.lref 4 0 2 1),(20,B false),(19,B false),(18,B true),(17,I x4p2.lo),(16,.lref 4 0 2 0),(6,.lref 4 0 2 0),(15,.agg [I x4p2.lo,I x4p2.hi]),(14,.lref 2 i4p2 2 0),(13,B true),(4,.lsl 3 0 va4p2_0.length 2 none),(10,.lsl 2 0 a.l.length 2 none),(11,I ((a.l.length:Nat):Int)),(12,I ((i4p2:Nat):Int))],[(2,⟨(zq zp a.l).map Sn.D,2,false⟩),(3,⟨va4p2_0.map Sn.D,2,false⟩),(4,⟨[.agg [I x4p2.lo,I x4p2.hi]],2,false⟩)],5,3⟩

def sd254 (a:GS Sn) (i4p2:Nat) (x4p2:Sn) (va4p2_0:List Sn):St:=⟨65,[(3,I 2),(2,.sl true [] 0 none),(25,B true),(24,.tup []),(23,.tup []),(22,.tup []),(21,.tup []),(20,B true),(19,B true),(18,B false),(17,I x4p2.lo),(16,.lref 4 0 2 0),(6,.lref 4 0 2 0),(15,.agg [I x4p2.lo,I x4p2.hi]),(14,.lref 2 i4p2 2 0),(13,B true),(4,.lsl 3 0 va4p2_0.length 2 none),(10,.lsl 2 0 a.l.length 2 none),(11,I ((a.l.length:Nat):Int)),(12,I ((i4p2:Nat):Int))],[(2,⟨(zq zp a.l).map Sn.D,2,false⟩),(3,⟨va4p2_0.map Sn.D,2,false⟩),(4,⟨[.agg [I x4p2.lo,I x4p2.hi]],2,false⟩)],5,3⟩

def sd255 (a:GS Sn):St:=⟨65,[(13,B false),(4,.sl true [] 0 none),(10,.lsl 2 0 a.l.length 2 none),(11,I ((a.l.length:Nat):Int)),(12,I (((zq zp a.l).length:Nat):Int))],[(2,⟨(zq zp a.l).map Sn.D,2,false⟩)],3,3⟩

def sd256 (a:GS Sn) (i4p2:Nat) (x4p2:Sn):St:=⟨65,[(3,I 2),(2,.sl true [] 0 none),(25,B true),(24,B true),(23,B false),(22,I x4p2.hi),(21,.lref 3 0 2 1),(20,B false),(19,B false),(18,B true),(17,I x4p2.lo),(16,.lref 3 0 2 0),(6,.lref 3 0 2 0),(15,.agg [I x4p2.lo,I x4p2.hi]),(14,.lref 2 i4p2 2 0),(13,B true),(4,.sl true [] 0 none),(10,.lsl 2 0 a.l.length 2 none),(11,I ((a.l.length:Nat):Int)),(12,I ((i4p2:Nat):Int))],[(2,⟨(zq zp a.l).map Sn.D,2,false⟩),(3,⟨[.agg [I x4p2.lo,I x4p2.hi]],2,false⟩)],4,3⟩

def sd257 (a:GS Sn) (i4p2:Nat) (x4p2:Sn):St:=⟨65,[(3,I 2),(2,.sl true [] 0 none),(25,B true),(24,.tup []),(23,.tup []),(22,.tup []),(21,.tup []),(20,B true),(19,B true),(18,B false),(17,I x4p2.lo),(16,.lref 3 0 2 0),(6,.lref 3 0 2 0),(15,.agg [I x4p2.lo,I x4p2.hi]),(14,.lref 2 i4p2 2 0),(13,B true),(4,.sl true [] 0 none),(10,.lsl 2 0 a.l.length 2 none),(11,I ((a.l.length:Nat):Int)),(12,I ((i4p2:Nat):Int))],[(2,⟨(zq zp a.l).map Sn.D,2,false⟩),(3,⟨[.agg [I x4p2.lo,I x4p2.hi]],2,false⟩)],4,3⟩

def sd258 (a:GS Sn) (b:GS Sn):St:=⟨36,[(6,.lsl 2 0 a.l.length 2 none),(25,.lsl 1 0 2 1 (some 2)),(26,I 2),(27,I 1)],[(1,⟨[.sl a.nl (a.l.map Sn.D) (zsl a.nl 2) none,.sl b.nl (b.l.map Sn.D) (zsl b.nl 2) none],1,false⟩),(2,⟨(a.l++List.replicate ((a.l.length+b.l.length) - a.l.length) (⟨0,0⟩:Sn)).map Sn.D,2,false⟩)],3,2⟩

def sd259 (a:GS Sn) (b:GS Sn):St:=⟨36,[(27,I 1),(34,I 1),(6,.lsl 2 0 a.l.length 2 none),(33,.lsl 2 0 a.l.length 2 none),(32,.sl a.nl (a.l.map Sn.D) (zsl a.nl 2) none),(31,.lsl 2 0 0 2 none),(8,.sl a.nl (a.l.map Sn.D) (zsl a.nl 2) none),(30,.sl a.nl (a.l.map Sn.D) (zsl a.nl 2) none),(29,.lref 1 0 1 0),(28,B true),(6,.lsl 2 0 0 2 none),(25,.lsl 1 0 2 1 (some 2)),(26,I 2),(27,I 0)],[(1,⟨[.sl a.nl (a.l.map Sn.D) (zsl a.nl 2) none,.sl b.nl (b.l.map Sn.D) (zsl b.nl 2) none],1,false⟩),(2,⟨(a.l++List.replicate ((a.l.length+b.l.length) - a.l.length) (⟨0,0⟩:Sn)).map Sn.D,2,false⟩)],3,2⟩

def sd260 (a:GS Sn) (b:GS Sn):St:=⟨36,[(6,.lsl 2 0 ((a.l++b.l).length) 2 none),(25,.lsl 1 0 2 1 (some 2)),(26,I 2),(27,I 2)],[(1,⟨[.sl a.nl (a.l.map Sn.D) (zsl a.nl 2) none,.sl b.nl (b.l.map Sn.D) (zsl b.nl 2) none],1,false⟩),(2,⟨(a.l++b.l).map Sn.D,2,false⟩)],3,2⟩

def sd261 (a:GS Sn) (b:GS Sn):St:=⟨36,[(27,I 2),(34,I 2),(6,.lsl 2 0 ((a.l++b.l).length) 2 none),(33,.lsl 2 0 ((a.l++b.l).length) 2 none),(32,.sl b.nl (b.l.map Sn.D) (zsl b.nl 2) none),(31,.lsl 2 0 a.l.length 2 none),(8,.sl b.nl (b.l.map Sn.D) (zsl b.nl 2) none),(30,.sl b.nl (b.l.map Sn.D) (zsl b.nl 2) none),(29,.lref 1 1 1 0),(28,B true),(6,.lsl 2 0 a.l.length 2 none),(25,.lsl 1 0 2 1 (some 2)),(26,I 2),(27,I 1)],[(1,⟨[.sl a.nl (a.l.map Sn.D) (zsl a.nl 2) none,.sl b.nl (b.l.map Sn.D) (zsl b.nl 2) none],1,false⟩),(2,⟨(a.l++b.l).map Sn.D,2,false⟩)],3,2⟩

def sd262 (a:GS Sn) (b:GS Sn):St:=⟨36,[(28,B false),(6,.lsl 2 0 ((a.l++b.l).length) 2 none),(25,.lsl 1 0 2 1 (some 2)),(26,I 2),(27,I 2)],[(1,⟨[.sl a.nl (a.l.map Sn.D) (zsl a.nl 2) none,.sl b.nl (b.l.map Sn.D) (zsl b.nl 2) none],1,false⟩),(2,⟨(a.l++b.l).map Sn.D,2,false⟩)],3,2⟩

def sd268 (a:GS Sn) (b:GS Sn):St:=⟨65,[(4,.sl true [] 0 none),(10,.lsl 2 0 ((a.l++b.l).length) 2 none),(11,I (((a.l++b.l).length:Nat):Int)),(12,I 0)],[(2,⟨(zq zp (a.l++b.l)).map Sn.D,2,false⟩)],3,3⟩

def sd269 (a:GS Sn) (b:GS Sn) (va4p3_0:List Sn):St:=⟨65,[(13,B false),(4,.lsl 3 0 va4p3_0.length 2 none),(10,.lsl 2 0 ((a.l++b.l).length) 2 none),(11,I (((a.l++b.l).length:Nat):Int)),(12,I (((zq zp (a.l++b.l)).length:Nat):Int))],[(2,⟨(zq zp (a.l++b.l)).map Sn.D,2,false⟩),(3,⟨va4p3_0.map Sn.D,2,false⟩)],4,3⟩

def sd267 (a:GS Sn) (b:GS Sn):St:=⟨65,[(12,I 0),(11,I (((a.l++b.l).length:Nat):Int)),(10,.lsl 2 0 ((a.l++b.l).length) 2 none),(4,.sl true [] 0 none),(9,.tup []),(8,.lsl 2 0 ((a.l++b.l).length) 2 none),(3,I 0),(2,.sl true [] 0 none),(0,.lsl 2 0 ((a.l++b.l).length) 2 none)],[(2,⟨(zq zp (a.l++b.l)).map Sn.D,2,false⟩)],3,3⟩

def sd270 (a:GS Sn) (b:GS Sn) (i4p3:Nat) (x4p3:Sn) (va4p3_0:List Sn):St:=⟨65,[(3,I 2),(2,.sl true [] 0 none),(25,B true),(24,B true),(23,B false),(22,I x4p3.hi),(21,.lref 4 0 2 1),(20,B false),(19,B false),(18,B true),(17,I x4p3.lo),(16,.lref 4 0 2 0),(6,.lref 4 0 2 0),(15,.agg [I x4p3.lo,I x4p3.hi]),(14,.lref 2 i4p3 2 0),(13,B true),(4,.lsl 3 0 va4p3_0.length 2 none),(10,.lsl 2 0 ((a.l++b.l).length) 2 none),(11,I (((a.l++b.l).length:Nat):Int)),(12,I ((i4p3:Nat):Int))],[(2,⟨(zq zp (a.l++b.l)).map Sn.D,2,false⟩),(3,⟨va4p3_0.map Sn.D,2,false⟩),(4,⟨[.agg [I x4p3.lo,I x4p3.hi]],2,false⟩)],5,3⟩

def sd271 (a:GS Sn) (b:GS Sn) (i4p3:Nat) (x4p3:Sn) (va4p3_0:List Sn):St:=⟨65,[(3,I 2),(2,.sl true [] 0 none),(25,B true),(24,.tup []),(23,.tup []),(22,.tup []),(21,.tup []),(20,B true),(19,B true),(18,B false),(17,I x4p3.lo),(16,.lref 4 0 2 0),(6,.lref 4 0 2 0),(15,.agg [I x4p3.lo,I x4p3.hi]),(14,.lref 2 i4p3 2 0),(13,B true),(4,.lsl 3 0 va4p3_0.length 2 none),(10,.lsl 2 0 ((a.l++b.l).length) 2 none),(11,I (((a.l++b.l).length:Nat):Int)),(12,I ((i4p3:Nat):Int))],[(2,⟨(zq zp (a.l++b.l)).map Sn.D,2,false⟩),(3,⟨va4p3_0.map Sn.D,2,false⟩),(4,⟨[.agg [I x4p3.lo,I x4p3.hi]],2,false⟩)],5,3⟩

def sd272 (a:GS Sn) (b:GS Sn):St:=⟨65,[(13,B false),(4,.sl true [] 0 none),(10,.lsl 2 0 ((a.l++b.l).length) 2 none),(11,I (((a.l++b.l).length:Nat):Int)),(12,I (((zq zp (a.l++b.l)).length:Nat):Int))],[(2,⟨(zq zp (a.l++b.l)).map Sn.D,2,false⟩)],3,3⟩

def sd273 (a:GS Sn) (b:GS Sn) (i4p3:Nat) (x4p3:Sn):St:=⟨65,[(3,I 2),(2,.sl true [] 0 none),(25,B true),(24,B true),(23,B false),(22,I x4p3.hi),(21,.lref 3 0 2 1),(20,B false),(19,B false),(18,B true),(17,I x4p3.lo),(16,.lref 3 0 2 0),(6,.lref 3 0 2 0),(15,.agg [I x4p3.lo,I x4p3.hi]),(14,.lref 2 i4p3 2 0),(13,B true),(4,.sl true [] 0 none),(10,.lsl 2 0 ((a.l++b.l).length) 2 none),(11,I (((a.l++b.l).length:Nat):Int)),(12,I ((i4p3:Nat):Int))],[(2,⟨(zq zp (a.l++b.l)).map Sn.D,2,false⟩),(3,⟨[.agg [I x4p3.lo,I x4p3.hi]],2,false⟩)],4,3⟩

def sd274 (a:GS Sn) (b:GS Sn) (i4p3:Nat) (x4p3:Sn):St:=⟨65,[(3,I 2),(2,.sl true [] 0 none),(25,B true),(24,.tup []),(23,.tup []),(22,.tup []),(21,.tup []),(20,B true),(19,B true),(18,B false),(17,I x4p3.lo),(16,.lref 3 0 2 0),(6,.lref 3 0 2 0),(15,.agg [I x4p3.lo,I x4p3.hi]),(14,.lref 2 i4p3 2 0),(13,B true),(4,.sl true [] 0 none),(10,.lsl 2 0 ((a.l++b.l).length) 2 none),(11,I (((a.l++b.l).length:Nat):Int)),(12,I ((i4p3:Nat):Int))],[(2,⟨(zq zp (a.l++b.l)).map Sn.D,2,false⟩),(3,⟨[.agg [I x4p3.lo,I x4p3.hi]],2,false⟩)],4,3⟩

def sd276 (a:GS Sn) (b:GS Sn):St:=⟨36,[(6,.sl true [] 0 none),(25,.lsl 1 0 2 1 (some 2)),(26,I 2),(27,I 1)],[(1,⟨[.sl a.nl (a.l.map Sn.D) (zsl a.nl 2) none,.sl b.nl (b.l.map Sn.D) (zsl b.nl 2) none],1,false⟩)],2,2⟩

def sd275 (a:GS Sn) (b:GS Sn):St:=⟨36,[(6,.sl true [] 0 none),(25,.lsl 1 0 2 1 (some 2)),(26,I 2),(27,I 0)],[(1,⟨[.sl a.nl (a.l.map Sn.D) (zsl a.nl 2) none,.sl b.nl (b.l.map Sn.D) (zsl b.nl 2) none],1,false⟩)],2,2⟩

def sd277 (a:GS Sn) (b:GS Sn):St:=⟨36,[(6,.sl true [] 0 none),(25,.lsl 1 0 2 1 (some 2)),(26,I 2),(27,I 2)],[(1,⟨[.sl a.nl (a.l.map Sn.D) (zsl a.nl 2) none,.sl b.nl (b.l.map Sn.D) (zsl b.nl 2) none],1,false⟩)],2,2⟩

def sd278 (a:GS Sn) (b:GS Sn):St:=⟨36,[(28,B false),(6,.sl true [] 0 none),(25,.lsl 1 0 2 1 (some 2)),(26,I 2),(27,I 2)],[(1,⟨[.sl a.nl (a.l.map Sn.D) (zsl a.nl 2) none,.sl b.nl (b.l.map Sn.D) (zsl b.nl 2) none],1,false⟩)],2,2⟩

theorem T_ranges_Union (a:GS Sn) (b:GS Sn) (hLa:a.l.length≤9223372036854775807) (hLb:b.l.length≤9223372036854775807):(lim cfg).pure 45 [GS.D Sn.D 2 a,GS.D Sn.D 2 b]=some (.tup [GS.D Sn.D 2 ((zi a b).1),I ((zi a b).2)]):=by
 unfold zi
 have p1:=(T_ranges_check (GS.some [a,b]) (by exact yh (by omega) (by omega)) (by simp only [zG,GS.some_l,List.length_set,List.length_append,List.length_cons,List.length_nil] at * <;> first | with_reducible assumption | omega))
 cases h1:((y7 (GS.some [a,b])) != 0) with
 | true =>
  have g1:=bne_true h1
  exact zt [.pure (I (y7 (GS.some [a,b]))),.dec true] (Ai h1 (Ai p1 trivial)) (by kernel_rfl)
 | false =>
  have g1:=check2_len (bne_false h1)
  have l1:=(show decide (((a.l.length:Nat):Int) < 0)=false from (decide_eq_false (by omega)))
  have l2:=(show ∀ q,(lim cfg).loop 96 lp96_3 (sd223 a b)=some q→(lim cfg).loop 96 lp96_3 (sd222 a b)=some q from fun q hq=>po_turn (st1:=(sd223 a b)) [.dec true,.rw 17 (I ((a.l.length:Nat):Int)),.rw 18 (I ((a.l.length:Nat):Int)),.dec false,.rw 22 (I 1)] (Ai (zadd_rw (x:=1) (by omega)) (Ai (l1) (Ai (zadd_rw (x:=a.l.length) (by omega)) (Ai (zQ Sn.D a) (Ai (Eq.refl true) trivial))))) hq (by kernel_rfl))
  have l3:=(show decide (((a.l.length+b.l.length:Nat):Int) < 0)=false from (decide_eq_false (by omega)))
  have l4:=(show ∀ q,(lim cfg).loop 96 lp96_3 (sd224 a b)=some q→(lim cfg).loop 96 lp96_3 (sd223 a b)=some q from fun q hq=>po_turn (st1:=(sd224 a b)) [.dec true,.rw 17 (I ((b.l.length:Nat):Int)),.rw 18 (I ((a.l.length+b.l.length:Nat):Int)),.dec false] (Ai (l3) (Ai (add_rw (x:=a.l.length) (y:=b.l.length) (by omega)) (Ai (zQ Sn.D b) (Ai (Eq.refl true) trivial)))) hq (by kernel_rfl))
  cases h2:decide (((a.l.length+b.l.length:Nat):Int) > 0) with
  | true =>
   have g2:=of_decide_eq_true h2
   cases h3:a.l.isEmpty with
   | true =>
    have l5:=(app_none (te:=yw) (gO:=zF [(1,⟨[.sl a.nl (a.l.map Sn.D) (zsl a.nl 2) none,.sl b.nl (b.l.map Sn.D) (zsl b.nl 2) none],1,false⟩),(2,⟨(List.replicate (a.l.length+b.l.length) (⟨0,0⟩:Sn)).map Sn.D,2,false⟩)]) (nxt:=3) (f:=Sn.D) (sz:=2) (d:=.lsl 2 0 0 2 none) a h3 rfl)
    have l6:=(show ∀ q,(lim cfg).loop 96 lp96_11 (sd227 a b)=some q→(lim cfg).loop 96 lp96_11 (sd226 a b)=some q from fun q hq=>yg (ks:=[6,25,26,27]) (st':=(sd228 a b)) (st1:=(sd227 a b)) [.dec true,.op (some 33) ⟨.lsl 2 0 0 2 none,[],[],3⟩,.rw 34 (I 1)] (Ai (zadd_rw (x:=1) (by omega)) (Ai (l5) (Ai (Eq.refl true) trivial))) (by kernel_rfl) (by (simp only [sd227,sd228,go_sem,List.length_set,Nat.reduceAdd,Nat.reduceEqDiff,Nat.reduceLT,Nat.reduceLeDiff,bI2,zf.idsL,zf.renL,zf.snapAll,z7.idsL,z7.renL,z7.snapAll]) <;> rfl) hq (by kernel_rfl))
    have l7:=(app_fullD (te:=yw) (gO:=zF [(1,⟨[.sl a.nl (a.l.map Sn.D) (zsl a.nl 2) none,.sl b.nl (b.l.map Sn.D) (zsl b.nl 2) none],1,false⟩),(2,⟨(List.replicate (a.l.length+b.l.length) (⟨0,0⟩:Sn)).map Sn.D,2,false⟩)]) (nxt:=3) (o:=2) (v:=[]) (z:=(⟨0,0⟩:Sn)) (n:=(a.l.length+b.l.length)) z7 b (show b.l.isEmpty=false from (nemp_add h2 h3)) (by kernel_rfl) rfl (by kernel_rfl) (by decide) (by simp at * <;> omega) ⟨by simp only [yw,big] <;> (first | assumption | omega | (exact yh (by omega) (by omega)) | (exact zT (by omega)) | (exact zK (by omega)) | (exact zU (by omega)) | (exact zM (by omega)) | (exact zB _ (by omega)) | (simp only [zo] at * <;> omega) | (simp only [zG,GS.some_l,List.length_set,List.length_append,List.length_cons,List.length_nil] at * <;> first | with_reducible assumption | omega) | (simp only [zG,GS.some_l,List.length_set,List.length_append,List.length_cons,List.length_nil,zo] at * <;> first | with_reducible assumption | omega) | (simp at * <;> omega)),by simp only [big] <;> (first | assumption | omega | (exact yh (by omega) (by omega)) | (exact zT (by omega)) | (exact zK (by omega)) | (exact zU (by omega)) | (exact zM (by omega)) | (exact zB _ (by omega)) | (simp only [zo] at * <;> omega) | (simp only [zG,GS.some_l,List.length_set,List.length_append,List.length_cons,List.length_nil] at * <;> first | with_reducible assumption | omega) | (simp only [zG,GS.some_l,List.length_set,List.length_append,List.length_cons,List.length_nil,zo] at * <;> first | with_reducible assumption | omega) | (simp at * <;> omega))⟩)
    have l8:=(show ∀ q,(lim cfg).loop 96 lp96_11 (sd229 a b)=some q→(lim cfg).loop 96 lp96_11 (sd227 a b)=some q from fun q hq=>yg (ks:=[6,25,26,27]) (st':=(sd230 a b)) (st1:=(sd229 a b)) [.dec true,.op (some 33) ⟨.lsl 2 0 b.l.length 2 none,[(2,some ⟨b.l.map Sn.D,2,false⟩)],[2],3⟩] (Ai (l7) (Ai (Eq.refl true) trivial)) (by kernel_rfl) (by (simp only [sd229,sd230,go_sem,List.length_set,Nat.reduceAdd,Nat.reduceEqDiff,Nat.reduceLT,Nat.reduceLeDiff,bI2,zf.idsL,zf.renL,zf.snapAll,z7.idsL,z7.renL,z7.snapAll]) <;> rfl) hq (by kernel_rfl))
    have p2:=(show (lim cfg).inl 96 [.lsl 1 0 2 1 (some 2)] [(1,⟨[.sl a.nl (a.l.map Sn.D) (zsl a.nl 2) none,.sl b.nl (b.l.map Sn.D) (zsl b.nl 2) none],1,false⟩)] 2=some (.lsl 2 0 b.l.length 2 none,[(1,⟨[.sl a.nl (a.l.map Sn.D) (zsl a.nl 2) none,.sl b.nl (b.l.map Sn.D) (zsl b.nl 2) none],1,false⟩),(2,⟨b.l.map Sn.D,2,false⟩)],3) from zy [.loop (.exit 0) (sd225 a b),.inl (.lsl 2 0 0 2 none) [(2,⟨(List.replicate (a.l.length+b.l.length) (⟨0,0⟩:Sn)).map Sn.D,2,false⟩)] 3,.gloop (sd226 a b) (.exit 2) (sd231 a b)] (Ai (show (lim cfg).loop 96 lp96_11 (sd226 a b)=some ((.exit 2),(sd231 a b)) from (l6 _ (l8 _ (zP [.dec false] (Ai (Eq.refl false) trivial) (by kernel_rfl))))) (Ai (gc_of (C:=cfg) (f:=96) (a:=lp96_11) (ks:=[6,25,26,27]) (st:=(sd232 a b)) (st1:=(sd226 a b)) (by kernel_rfl) (by (simp only [sd226,sd232,go_sem,List.length_set,Nat.reduceAdd,Nat.reduceEqDiff,Nat.reduceLT,Nat.reduceLeDiff,bI2,zf.idsL,zf.renL,zf.snapAll,z7.idsL,z7.renL,z7.snapAll]) <;> rfl)) (Ai (show (lim cfg).inl 108 [.sl true [] 0 none,I ((a.l.length+b.l.length:Nat):Int)] [] 2=some (.lsl 2 0 0 2 none,[(2,⟨(List.replicate (a.l.length+b.l.length) (⟨0,0⟩:Sn)).map Sn.D,2,false⟩)],3) from zy [.dec false,.rw 14 (I ((a.l.length+b.l.length:Nat):Int)),.dec true,.op (some 22) ⟨.lsl 2 0 (a.l.length+b.l.length) 2 none,[(2,some ⟨(List.replicate (a.l.length+b.l.length) (⟨0,0⟩:Sn)).map Sn.D,2,false⟩)],[],3⟩,.op (some 25) ⟨.lsl 2 0 0 2 none,[],[2],3⟩] (Ai (cut_zero (C:=cfg) (objs:=[(2,⟨(List.replicate (a.l.length+b.l.length) (⟨0,0⟩:Sn)).map Sn.D,2,false⟩)]) (t:=22) (nxt:=3) (o:=2) (sz:=2) (len:=(a.l.length+b.l.length)) rfl rfl rfl rfl (by omega)) (Ai (app_zero (C:=cfg) (gO:=zF []) (nxt:=2) (t:=22) (t':=3) (te:=yw) (f:=Sn.D) (sz:=2) (k:=.i64) (n:=((a.l.length+b.l.length:Nat):Int)) (els0:=[]) (sz0:=0) (cap0:=none) (⟨0,0⟩:Sn) rfl rfl rfl rfl rfl (by kernel_rfl) (by decide) rfl (by omega) ⟨by simp only [yw,big] <;> (first | assumption | omega | (exact yh (by omega) (by omega)) | (exact zT (by omega)) | (exact zK (by omega)) | (exact zU (by omega)) | (exact zM (by omega)) | (exact zB _ (by omega)) | (simp only [zo] at * <;> omega) | (simp only [zG,GS.some_l,List.length_set,List.length_append,List.length_cons,List.length_nil] at * <;> first | with_reducible assumption | omega) | (simp only [zG,GS.some_l,List.length_set,List.length_append,List.length_cons,List.length_nil,zo] at * <;> first | with_reducible assumption | omega) | (simp at * <;> omega)),by simp only [big] <;> (first | assumption | omega | (exact yh (by omega) (by omega)) | (exact zT (by omega)) | (exact zK (by omega)) | (exact zU (by omega)) | (exact zM (by omega)) | (exact zB _ (by omega)) | (simp only [zo] at * <;> omega) | (simp only [zG,GS.some_l,List.length_set,List.length_append,List.length_cons,List.length_nil] at * <;> first | with_reducible assumption | omega) | (simp only [zG,GS.some_l,List.length_set,List.length_append,List.length_cons,List.length_nil,zo] at * <;> first | with_reducible assumption | omega) | (simp at * <;> omega))⟩) (Ai h2 (Ai (sub0_rw (x:=a.l.length+b.l.length) (by omega)) (Ai (show decide (((a.l.length+b.l.length:Nat):Int) < 0)=false from (decide_eq_false (by omega))) trivial))))) (by kernel_rfl)) (Ai (show (lim cfg).loop 96 lp96_3 (sd222 a b)=some ((.exit 0),(sd225 a b)) from (l2 _ (l4 _ (zP [.dec false] (Ai (Eq.refl false) trivial) (by kernel_rfl))))) trivial)))) (by kernel_rfl))
    cases h16:yc (zq zp b.l) 0 with
    | x0 va4p2_0 =>
     try dsimp only
     have hv_h16:=ivt_ranges_gathered_4p2 b (zq zp b.l) (zq zp b.l) 0 (List.drop_zero) (Nat.zero_le _) (by simp only [zG,GS.some_l,List.length_set,List.length_append,List.length_cons,List.length_nil] at * <;> first | with_reducible assumption | omega) (by simp only [zG,GS.some_l,List.length_set,List.length_append,List.length_cons,List.length_nil] at * <;> first | with_reducible assumption | omega)
     rw [h16] at hv_h16
     obtain ⟨hv_h16_0,hv_h16_1⟩:=hv_h16
     try dsimp only [ya] at hv_h16_0
     try dsimp only [ya] at hv_h16_1
     cases h17:decide (((va4p2_0.length:Nat):Int) > 64) with
     | true =>
      have g17:=of_decide_eq_true h17
      exact zt ((ranges_Union_o1 a b)++[.inlS [2] (.tup [.sl true [] 0 none,I 2]) [(2,⟨(zq zp b.l).map Sn.D,2,false⟩),(3,⟨va4p2_0.map Sn.D,2,false⟩)] 4]) (Ai (Ai (show zk [(0,⟨[.sl a.nl (a.l.map Sn.D) (zsl a.nl 2) none,.sl b.nl (b.l.map Sn.D) (zsl b.nl 2) none],1,false⟩),(1,⟨[.sl a.nl (a.l.map Sn.D) (zsl a.nl 2) none,.sl b.nl (b.l.map Sn.D) (zsl b.nl 2) none],1,false⟩),(2,⟨b.l.map Sn.D,2,false⟩)] 256 [2] []=some [2] from (by (simp only [zk,go_sem,List.length_set,Nat.reduceAdd,Nat.reduceEqDiff,Nat.reduceLT,Nat.reduceLeDiff,bI2,zf.idsL,zf.renL,zf.snapAll,z7.idsL,z7.renL,z7.snapAll]) <;> rfl)) (show (lim cfg).inl 69 [.lsl 2 0 b.l.length 2 none] [(2,⟨b.l.map Sn.D,2,false⟩)] 3=some (.tup [.sl true [] 0 none,I 2],[(2,⟨(zq zp b.l).map Sn.D,2,false⟩),(3,⟨va4p2_0.map Sn.D,2,false⟩)],4) from zy [.inlS [2] (.tup []) [(2,⟨(zq zp b.l).map Sn.D,2,false⟩)] 3,.gloop (sd238 b) (.exit 0) (sd239 b va4p2_0),.dec true] (Ai h17 (Ai (yi (q:=zX b (zq zp b.l)) (lp_ranges_gathered_4p2 b (zq zp b.l) (zq zp b.l) 0 (List.drop_zero) (Nat.zero_le _) (by simp only [zG,GS.some_l,List.length_set,List.length_append,List.length_cons,List.length_nil] at * <;> first | with_reducible assumption | omega) (by simp only [zG,GS.some_l,List.length_set,List.length_append,List.length_cons,List.length_nil] at * <;> first | with_reducible assumption | omega)) h16) (Ai (gc_of (C:=cfg) (f:=69) (a:=lp69_4) (ks:=[4,10,11,12]) (st:=(sd237 b)) (st1:=(sd238 b)) (by kernel_rfl) (by (simp only [sd237,sd238,go_sem,List.length_set,Nat.reduceAdd,Nat.reduceEqDiff,Nat.reduceLT,Nat.reduceLeDiff,bI2,zf.idsL,zf.renL,zf.snapAll,z7.idsL,z7.renL,z7.snapAll]) <;> rfl)) (Ai (Ai (show zk [(2,⟨b.l.map Sn.D,2,false⟩)] 256 [2] []=some [2] from (by (simp only [zk,go_sem,List.length_set,Nat.reduceAdd,Nat.reduceEqDiff,Nat.reduceLT,Nat.reduceLeDiff,bI2,zf.idsL,zf.renL,zf.snapAll,z7.idsL,z7.renL,z7.snapAll]) <;> rfl)) (T_sort 2 3 none b.l (by omega))) trivial)))) (by kernel_rfl))) (Ai p2 (Ai h1 (Ai p1 trivial)))) (by kernel_rfl)
     | false =>
      have g17:=of_decide_eq_false h17
      exact po_pureS ((ranges_Union_o1 a b)++[.inlS [2] (.tup [.lsl 3 0 va4p2_0.length 2 none,I 0]) [(2,⟨(zq zp b.l).map Sn.D,2,false⟩),(3,⟨va4p2_0.map Sn.D,2,false⟩)] 4]) [(3,.sl false (va4p2_0.map Sn.D) 2 none,[3])] (Ai (snap_row (gO:=zF [(0,⟨[.sl a.nl (a.l.map Sn.D) (zsl a.nl 2) none,.sl b.nl (b.l.map Sn.D) (zsl b.nl 2) none],1,false⟩),(1,⟨[.sl a.nl (a.l.map Sn.D) (zsl a.nl 2) none,.sl b.nl (b.l.map Sn.D) (zsl b.nl 2) none],1,false⟩),(2,⟨(zq zp b.l).map Sn.D,2,false⟩),(3,⟨va4p2_0.map Sn.D,2,false⟩)]) (o:=3) (len:=va4p2_0.length) (cap:=none) (fz:=false) z7 va4p2_0 (by kernel_rfl) (by omega)) (Ai (Ai (show zk [(0,⟨[.sl a.nl (a.l.map Sn.D) (zsl a.nl 2) none,.sl b.nl (b.l.map Sn.D) (zsl b.nl 2) none],1,false⟩),(1,⟨[.sl a.nl (a.l.map Sn.D) (zsl a.nl 2) none,.sl b.nl (b.l.map Sn.D) (zsl b.nl 2) none],1,false⟩),(2,⟨b.l.map Sn.D,2,false⟩)] 256 [2] []=some [2] from (by (simp only [zk,go_sem,List.length_set,Nat.reduceAdd,Nat.reduceEqDiff,Nat.reduceLT,Nat.reduceLeDiff,bI2,zf.idsL,zf.renL,zf.snapAll,z7.idsL,z7.renL,z7.snapAll]) <;> rfl)) (show (lim cfg).inl 69 [.lsl 2 0 b.l.length 2 none] [(2,⟨b.l.map Sn.D,2,false⟩)] 3=some (.tup [.lsl 3 0 va4p2_0.length 2 none,I 0],[(2,⟨(zq zp b.l).map Sn.D,2,false⟩),(3,⟨va4p2_0.map Sn.D,2,false⟩)],4) from zy [.inlS [2] (.tup []) [(2,⟨(zq zp b.l).map Sn.D,2,false⟩)] 3,.gloop (sd238 b) (.exit 0) (sd239 b va4p2_0),.dec false] (Ai h17 (Ai (yi (q:=zX b (zq zp b.l)) (lp_ranges_gathered_4p2 b (zq zp b.l) (zq zp b.l) 0 (List.drop_zero) (Nat.zero_le _) (by simp only [zG,GS.some_l,List.length_set,List.length_append,List.length_cons,List.length_nil] at * <;> first | with_reducible assumption | omega) (by simp only [zG,GS.some_l,List.length_set,List.length_append,List.length_cons,List.length_nil] at * <;> first | with_reducible assumption | omega)) h16) (Ai (gc_of (C:=cfg) (f:=69) (a:=lp69_4) (ks:=[4,10,11,12]) (st:=(sd237 b)) (st1:=(sd238 b)) (by kernel_rfl) (by (simp only [sd237,sd238,go_sem,List.length_set,Nat.reduceAdd,Nat.reduceEqDiff,Nat.reduceLT,Nat.reduceLeDiff,bI2,zf.idsL,zf.renL,zf.snapAll,z7.idsL,z7.renL,z7.snapAll]) <;> rfl)) (Ai (Ai (show zk [(2,⟨b.l.map Sn.D,2,false⟩)] 256 [2] []=some [2] from (by (simp only [zk,go_sem,List.length_set,Nat.reduceAdd,Nat.reduceEqDiff,Nat.reduceLT,Nat.reduceLeDiff,bI2,zf.idsL,zf.renL,zf.snapAll,z7.idsL,z7.renL,z7.snapAll]) <;> rfl)) (T_sort 2 3 none b.l (by omega))) trivial)))) (by kernel_rfl))) (Ai p2 (Ai h1 (Ai p1 trivial))))) (by kernel_rfl)
    | x1 i4p2 x4p2 va4p2_0 =>
     try dsimp only
     have hv_h16:=ivt_ranges_gathered_4p2 b (zq zp b.l) (zq zp b.l) 0 (List.drop_zero) (Nat.zero_le _) (by simp only [zG,GS.some_l,List.length_set,List.length_append,List.length_cons,List.length_nil] at * <;> first | with_reducible assumption | omega) (by simp only [zG,GS.some_l,List.length_set,List.length_append,List.length_cons,List.length_nil] at * <;> first | with_reducible assumption | omega)
     rw [h16] at hv_h16
     obtain ⟨hv_h16_0,hv_h16_1⟩:=hv_h16
     try dsimp only [ya] at hv_h16_0
     try dsimp only [ya] at hv_h16_1
     exact zt ((ranges_Union_o1 a b)++[.inlS [2] (.tup [.sl true [] 0 none,I 2]) [(2,⟨(zq zp b.l).map Sn.D,2,false⟩),(3,⟨va4p2_0.map Sn.D,2,false⟩),(4,⟨[.agg [I x4p2.lo,I x4p2.hi]],2,false⟩)] 5]) (Ai (Ai (show zk [(0,⟨[.sl a.nl (a.l.map Sn.D) (zsl a.nl 2) none,.sl b.nl (b.l.map Sn.D) (zsl b.nl 2) none],1,false⟩),(1,⟨[.sl a.nl (a.l.map Sn.D) (zsl a.nl 2) none,.sl b.nl (b.l.map Sn.D) (zsl b.nl 2) none],1,false⟩),(2,⟨b.l.map Sn.D,2,false⟩)] 256 [2] []=some [2] from (by (simp only [zk,go_sem,List.length_set,Nat.reduceAdd,Nat.reduceEqDiff,Nat.reduceLT,Nat.reduceLeDiff,bI2,zf.idsL,zf.renL,zf.snapAll,z7.idsL,z7.renL,z7.snapAll]) <;> rfl)) (show (lim cfg).inl 69 [.lsl 2 0 b.l.length 2 none] [(2,⟨b.l.map Sn.D,2,false⟩)] 3=some (.tup [.sl true [] 0 none,I 2],[(2,⟨(zq zp b.l).map Sn.D,2,false⟩),(3,⟨va4p2_0.map Sn.D,2,false⟩),(4,⟨[.agg [I x4p2.lo,I x4p2.hi]],2,false⟩)],5) from zy [.inlS [2] (.tup []) [(2,⟨(zq zp b.l).map Sn.D,2,false⟩)] 3,.gloop (sd238 b) .ret (sd240 b i4p2 x4p2 va4p2_0)] (Ai (yi (q:=zX b (zq zp b.l)) (lp_ranges_gathered_4p2 b (zq zp b.l) (zq zp b.l) 0 (List.drop_zero) (Nat.zero_le _) (by simp only [zG,GS.some_l,List.length_set,List.length_append,List.length_cons,List.length_nil] at * <;> first | with_reducible assumption | omega) (by simp only [zG,GS.some_l,List.length_set,List.length_append,List.length_cons,List.length_nil] at * <;> first | with_reducible assumption | omega)) h16) (Ai (gc_of (C:=cfg) (f:=69) (a:=lp69_4) (ks:=[4,10,11,12]) (st:=(sd237 b)) (st1:=(sd238 b)) (by kernel_rfl) (by (simp only [sd237,sd238,go_sem,List.length_set,Nat.reduceAdd,Nat.reduceEqDiff,Nat.reduceLT,Nat.reduceLeDiff,bI2,zf.idsL,zf.renL,zf.snapAll,z7.idsL,z7.renL,z7.snapAll]) <;> rfl)) (Ai (Ai (show zk [(2,⟨b.l.map Sn.D,2,false⟩)] 256 [2] []=some [2] from (by (simp only [zk,go_sem,List.length_set,Nat.reduceAdd,Nat.reduceEqDiff,Nat.reduceLT,Nat.reduceLeDiff,bI2,zf.idsL,zf.renL,zf.snapAll,z7.idsL,z7.renL,z7.snapAll]) <;> rfl)) (T_sort 2 3 none b.l (by omega))) trivial))) (by kernel_rfl))) (Ai p2 (Ai h1 (Ai p1 trivial)))) (by kernel_rfl)
    | x2 i4p2 x4p2 va4p2_0 =>
     try dsimp only
     have hv_h16:=ivt_ranges_gathered_4p2 b (zq zp b.l) (zq zp b.l) 0 (List.drop_zero) (Nat.zero_le _) (by simp only [zG,GS.some_l,List.length_set,List.length_append,List.length_cons,List.length_nil] at * <;> first | with_reducible assumption | omega) (by simp only [zG,GS.some_l,List.length_set,List.length_append,List.length_cons,List.length_nil] at * <;> first | with_reducible assumption | omega)
     rw [h16] at hv_h16
     obtain ⟨hv_h16_0,hv_h16_1⟩:=hv_h16
     try dsimp only [ya] at hv_h16_0
     try dsimp only [ya] at hv_h16_1
     exact zt ((ranges_Union_o1 a b)++[.inlS [2] (.tup [.sl true [] 0 none,I 2]) [(2,⟨(zq zp b.l).map Sn.D,2,false⟩),(3,⟨va4p2_0.map Sn.D,2,false⟩),(4,⟨[.agg [I x4p2.lo,I x4p2.hi]],2,false⟩)] 5]) (Ai (Ai (show zk [(0,⟨[.sl a.nl (a.l.map Sn.D) (zsl a.nl 2) none,.sl b.nl (b.l.map Sn.D) (zsl b.nl 2) none],1,false⟩),(1,⟨[.sl a.nl (a.l.map Sn.D) (zsl a.nl 2) none,.sl b.nl (b.l.map Sn.D) (zsl b.nl 2) none],1,false⟩),(2,⟨b.l.map Sn.D,2,false⟩)] 256 [2] []=some [2] from (by (simp only [zk,go_sem,List.length_set,Nat.reduceAdd,Nat.reduceEqDiff,Nat.reduceLT,Nat.reduceLeDiff,bI2,zf.idsL,zf.renL,zf.snapAll,z7.idsL,z7.renL,z7.snapAll]) <;> rfl)) (show (lim cfg).inl 69 [.lsl 2 0 b.l.length 2 none] [(2,⟨b.l.map Sn.D,2,false⟩)] 3=some (.tup [.sl true [] 0 none,I 2],[(2,⟨(zq zp b.l).map Sn.D,2,false⟩),(3,⟨va4p2_0.map Sn.D,2,false⟩),(4,⟨[.agg [I x4p2.lo,I x4p2.hi]],2,false⟩)],5) from zy [.inlS [2] (.tup []) [(2,⟨(zq zp b.l).map Sn.D,2,false⟩)] 3,.gloop (sd238 b) .ret (sd241 b i4p2 x4p2 va4p2_0)] (Ai (yi (q:=zX b (zq zp b.l)) (lp_ranges_gathered_4p2 b (zq zp b.l) (zq zp b.l) 0 (List.drop_zero) (Nat.zero_le _) (by simp only [zG,GS.some_l,List.length_set,List.length_append,List.length_cons,List.length_nil] at * <;> first | with_reducible assumption | omega) (by simp only [zG,GS.some_l,List.length_set,List.length_append,List.length_cons,List.length_nil] at * <;> first | with_reducible assumption | omega)) h16) (Ai (gc_of (C:=cfg) (f:=69) (a:=lp69_4) (ks:=[4,10,11,12]) (st:=(sd237 b)) (st1:=(sd238 b)) (by kernel_rfl) (by (simp only [sd237,sd238,go_sem,List.length_set,Nat.reduceAdd,Nat.reduceEqDiff,Nat.reduceLT,Nat.reduceLeDiff,bI2,zf.idsL,zf.renL,zf.snapAll,z7.idsL,z7.renL,z7.snapAll]) <;> rfl)) (Ai (Ai (show zk [(2,⟨b.l.map Sn.D,2,false⟩)] 256 [2] []=some [2] from (by (simp only [zk,go_sem,List.length_set,Nat.reduceAdd,Nat.reduceEqDiff,Nat.reduceLT,Nat.reduceLeDiff,bI2,zf.idsL,zf.renL,zf.snapAll,z7.idsL,z7.renL,z7.snapAll]) <;> rfl)) (T_sort 2 3 none b.l (by omega))) trivial))) (by kernel_rfl))) (Ai p2 (Ai h1 (Ai p1 trivial)))) (by kernel_rfl)
    | x3 =>
     try dsimp only
     exact zt ((ranges_Union_o1 a b)++[.inlS [2] (.tup [.sl true [] 0 none,I 0]) [(2,⟨(zq zp b.l).map Sn.D,2,false⟩)] 3]) (Ai (Ai (show zk [(0,⟨[.sl a.nl (a.l.map Sn.D) (zsl a.nl 2) none,.sl b.nl (b.l.map Sn.D) (zsl b.nl 2) none],1,false⟩),(1,⟨[.sl a.nl (a.l.map Sn.D) (zsl a.nl 2) none,.sl b.nl (b.l.map Sn.D) (zsl b.nl 2) none],1,false⟩),(2,⟨b.l.map Sn.D,2,false⟩)] 256 [2] []=some [2] from (by (simp only [zk,go_sem,List.length_set,Nat.reduceAdd,Nat.reduceEqDiff,Nat.reduceLT,Nat.reduceLeDiff,bI2,zf.idsL,zf.renL,zf.snapAll,z7.idsL,z7.renL,z7.snapAll]) <;> rfl)) (show (lim cfg).inl 69 [.lsl 2 0 b.l.length 2 none] [(2,⟨b.l.map Sn.D,2,false⟩)] 3=some (.tup [.sl true [] 0 none,I 0],[(2,⟨(zq zp b.l).map Sn.D,2,false⟩)],3) from zy [.inlS [2] (.tup []) [(2,⟨(zq zp b.l).map Sn.D,2,false⟩)] 3,.gloop (sd238 b) (.exit 0) (sd242 b),.dec false] (Ai (Eq.refl false) (Ai (yi (q:=zX b (zq zp b.l)) (lp_ranges_gathered_4p2 b (zq zp b.l) (zq zp b.l) 0 (List.drop_zero) (Nat.zero_le _) (by simp only [zG,GS.some_l,List.length_set,List.length_append,List.length_cons,List.length_nil] at * <;> first | with_reducible assumption | omega) (by simp only [zG,GS.some_l,List.length_set,List.length_append,List.length_cons,List.length_nil] at * <;> first | with_reducible assumption | omega)) h16) (Ai (gc_of (C:=cfg) (f:=69) (a:=lp69_4) (ks:=[4,10,11,12]) (st:=(sd237 b)) (st1:=(sd238 b)) (by kernel_rfl) (by (simp only [sd237,sd238,go_sem,List.length_set,Nat.reduceAdd,Nat.reduceEqDiff,Nat.reduceLT,Nat.reduceLeDiff,bI2,zf.idsL,zf.renL,zf.snapAll,z7.idsL,z7.renL,z7.snapAll]) <;> rfl)) (Ai (Ai (show zk [(2,⟨b.l.map Sn.D,2,false⟩)] 256 [2] []=some [2] from (by (simp only [zk,go_sem,List.length_set,Nat.reduceAdd,Nat.reduceEqDiff,Nat.reduceLT,Nat.reduceLeDiff,bI2,zf.idsL,zf.renL,zf.snapAll,z7.idsL,z7.renL,z7.snapAll]) <;> rfl)) (T_sort 2 3 none b.l (by omega))) trivial)))) (by kernel_rfl))) (Ai p2 (Ai h1 (Ai p1 trivial)))) (by kernel_rfl)
    | x4 i4p2 x4p2 =>
     try dsimp only
     exact zt ((ranges_Union_o1 a b)++[.inlS [2] (.tup [.sl true [] 0 none,I 2]) [(2,⟨(zq zp b.l).map Sn.D,2,false⟩),(3,⟨[.agg [I x4p2.lo,I x4p2.hi]],2,false⟩)] 4]) (Ai (Ai (show zk [(0,⟨[.sl a.nl (a.l.map Sn.D) (zsl a.nl 2) none,.sl b.nl (b.l.map Sn.D) (zsl b.nl 2) none],1,false⟩),(1,⟨[.sl a.nl (a.l.map Sn.D) (zsl a.nl 2) none,.sl b.nl (b.l.map Sn.D) (zsl b.nl 2) none],1,false⟩),(2,⟨b.l.map Sn.D,2,false⟩)] 256 [2] []=some [2] from (by (simp only [zk,go_sem,List.length_set,Nat.reduceAdd,Nat.reduceEqDiff,Nat.reduceLT,Nat.reduceLeDiff,bI2,zf.idsL,zf.renL,zf.snapAll,z7.idsL,z7.renL,z7.snapAll]) <;> rfl)) (show (lim cfg).inl 69 [.lsl 2 0 b.l.length 2 none] [(2,⟨b.l.map Sn.D,2,false⟩)] 3=some (.tup [.sl true [] 0 none,I 2],[(2,⟨(zq zp b.l).map Sn.D,2,false⟩),(3,⟨[.agg [I x4p2.lo,I x4p2.hi]],2,false⟩)],4) from zy [.inlS [2] (.tup []) [(2,⟨(zq zp b.l).map Sn.D,2,false⟩)] 3,.gloop (sd238 b) .ret (sd243 b i4p2 x4p2)] (Ai (yi (q:=zX b (zq zp b.l)) (lp_ranges_gathered_4p2 b (zq zp b.l) (zq zp b.l) 0 (List.drop_zero) (Nat.zero_le _) (by simp only [zG,GS.some_l,List.length_set,List.length_append,List.length_cons,List.length_nil] at * <;> first | with_reducible assumption | omega) (by simp only [zG,GS.some_l,List.length_set,List.length_append,List.length_cons,List.length_nil] at * <;> first | with_reducible assumption | omega)) h16) (Ai (gc_of (C:=cfg) (f:=69) (a:=lp69_4) (ks:=[4,10,11,12]) (st:=(sd237 b)) (st1:=(sd238 b)) (by kernel_rfl) (by (simp only [sd237,sd238,go_sem,List.length_set,Nat.reduceAdd,Nat.reduceEqDiff,Nat.reduceLT,Nat.reduceLeDiff,bI2,zf.idsL,zf.renL,zf.snapAll,z7.idsL,z7.renL,z7.snapAll]) <;> rfl)) (Ai (Ai (show zk [(2,⟨b.l.map Sn.D,2,false⟩)] 256 [2] []=some [2] from (by (simp only [zk,go_sem,List.length_set,Nat.reduceAdd,Nat.reduceEqDiff,Nat.reduceLT,Nat.reduceLeDiff,bI2,zf.idsL,zf.renL,zf.snapAll,z7.idsL,z7.renL,z7.snapAll]) <;> rfl)) (T_sort 2 3 none b.l (by omega))) trivial))) (by kernel_rfl))) (Ai p2 (Ai h1 (Ai p1 trivial)))) (by kernel_rfl)
    | x5 i4p2 x4p2 =>
     try dsimp only
     exact zt ((ranges_Union_o1 a b)++[.inlS [2] (.tup [.sl true [] 0 none,I 2]) [(2,⟨(zq zp b.l).map Sn.D,2,false⟩),(3,⟨[.agg [I x4p2.lo,I x4p2.hi]],2,false⟩)] 4]) (Ai (Ai (show zk [(0,⟨[.sl a.nl (a.l.map Sn.D) (zsl a.nl 2) none,.sl b.nl (b.l.map Sn.D) (zsl b.nl 2) none],1,false⟩),(1,⟨[.sl a.nl (a.l.map Sn.D) (zsl a.nl 2) none,.sl b.nl (b.l.map Sn.D) (zsl b.nl 2) none],1,false⟩),(2,⟨b.l.map Sn.D,2,false⟩)] 256 [2] []=some [2] from (by (simp only [zk,go_sem,List.length_set,Nat.reduceAdd,Nat.reduceEqDiff,Nat.reduceLT,Nat.reduceLeDiff,bI2,zf.idsL,zf.renL,zf.snapAll,z7.idsL,z7.renL,z7.snapAll]) <;> rfl)) (show (lim cfg).inl 69 [.lsl 2 0 b.l.length 2 none] [(2,⟨b.l.map Sn.D,2,false⟩)] 3=some (.tup [.sl true [] 0 none,I 2],[(2,⟨(zq zp b.l).map Sn.D,2,false⟩),(3,⟨[.agg [I x4p2.lo,I x4p2.hi]],2,false⟩)],4) from zy [.inlS [2] (.tup []) [(2,⟨(zq zp b.l).map Sn.D,2,false⟩)] 3,.gloop (sd238 b) .ret (sd244 b i4p2 x4p2)] (Ai (yi (q:=zX b (zq zp b.l)) (lp_ranges_gathered_4p2 b (zq zp b.l) (zq zp b.l) 0 (List.drop_zero) (Nat.zero_le _) (by simp only [zG,GS.some_l,List.length_set,List.length_append,List.length_cons,List.length_nil] at * <;> first | with_reducible assumption | omega) (by simp only [zG,GS.some_l,List.length_set,List.length_append,List.length_cons,List.length_nil] at * <;> first | with_reducible assumption | omega)) h16) (Ai (gc_of (C:=cfg) (f:=69) (a:=lp69_4) (ks:=[4,10,11,12]) (st:=(sd237 b)) (st1:=(sd238 b)) (by kernel_rfl) (by (simp only [sd237,sd238,go_sem,List.length_set,Nat.reduceAdd,Nat.reduceEqDiff,Nat.reduceLT,Nat.reduceLeDiff,bI2,zf.idsL,zf.renL,zf.snapAll,z7.idsL,z7.renL,z7.snapAll]) <;> rfl)) (Ai (Ai (show zk [(2,⟨b.l.map Sn.D,2,false⟩)] 256 [2] []=some [2] from (by (simp only [zk,go_sem,List.length_set,Nat.reduceAdd,Nat.reduceEqDiff,Nat.reduceLT,Nat.reduceLeDiff,bI2,zf.idsL,zf.renL,zf.snapAll,z7.idsL,z7.renL,z7.snapAll]) <;> rfl)) (T_sort 2 3 none b.l (by omega))) trivial))) (by kernel_rfl))) (Ai p2 (Ai h1 (Ai p1 trivial)))) (by kernel_rfl)
   | false =>
    cases h18:b.l.isEmpty with
    | true =>
     have l9:=(app_fullD (te:=yw) (gO:=zF [(1,⟨[.sl a.nl (a.l.map Sn.D) (zsl a.nl 2) none,.sl b.nl (b.l.map Sn.D) (zsl b.nl 2) none],1,false⟩),(2,⟨(List.replicate (a.l.length+b.l.length) (⟨0,0⟩:Sn)).map Sn.D,2,false⟩)]) (nxt:=3) (o:=2) (v:=[]) (z:=(⟨0,0⟩:Sn)) (n:=(a.l.length+b.l.length)) z7 a h3 (by kernel_rfl) rfl (by kernel_rfl) (by decide) (by simp at * <;> omega) ⟨by simp only [yw,big] <;> (first | assumption | omega | (exact yh (by omega) (by omega)) | (exact zT (by omega)) | (exact zK (by omega)) | (exact zU (by omega)) | (exact zM (by omega)) | (exact zB _ (by omega)) | (simp only [zo] at * <;> omega) | (simp only [zG,GS.some_l,List.length_set,List.length_append,List.length_cons,List.length_nil] at * <;> first | with_reducible assumption | omega) | (simp only [zG,GS.some_l,List.length_set,List.length_append,List.length_cons,List.length_nil,zo] at * <;> first | with_reducible assumption | omega) | (simp at * <;> omega)),by simp only [big] <;> (first | assumption | omega | (exact yh (by omega) (by omega)) | (exact zT (by omega)) | (exact zK (by omega)) | (exact zU (by omega)) | (exact zM (by omega)) | (exact zB _ (by omega)) | (simp only [zo] at * <;> omega) | (simp only [zG,GS.some_l,List.length_set,List.length_append,List.length_cons,List.length_nil] at * <;> first | with_reducible assumption | omega) | (simp only [zG,GS.some_l,List.length_set,List.length_append,List.length_cons,List.length_nil,zo] at * <;> first | with_reducible assumption | omega) | (simp at * <;> omega))⟩)
     have l10:=(show ∀ q,(lim cfg).loop 96 lp96_11 (sd245 a b)=some q→(lim cfg).loop 96 lp96_11 (sd226 a b)=some q from fun q hq=>yg (ks:=[6,25,26,27]) (st':=(sd246 a b)) (st1:=(sd245 a b)) [.dec true,.op (some 33) ⟨.lsl 2 0 a.l.length 2 none,[(2,some ⟨a.l.map Sn.D,2,false⟩)],[2],3⟩,.rw 34 (I 1)] (Ai (zadd_rw (x:=1) (by omega)) (Ai (l9) (Ai (Eq.refl true) trivial))) (by kernel_rfl) (by (simp only [sd245,sd246,go_sem,List.length_set,Nat.reduceAdd,Nat.reduceEqDiff,Nat.reduceLT,Nat.reduceLeDiff,bI2,zf.idsL,zf.renL,zf.snapAll,z7.idsL,z7.renL,z7.snapAll]) <;> rfl) hq (by kernel_rfl))
     have l11:=(app_none (te:=yw) (gO:=zF [(1,⟨[.sl a.nl (a.l.map Sn.D) (zsl a.nl 2) none,.sl b.nl (b.l.map Sn.D) (zsl b.nl 2) none],1,false⟩),(2,⟨a.l.map Sn.D,2,false⟩)]) (nxt:=3) (f:=Sn.D) (sz:=2) (d:=.lsl 2 0 a.l.length 2 none) b h18 rfl)
     have l12:=(show ∀ q,(lim cfg).loop 96 lp96_11 (sd247 a b)=some q→(lim cfg).loop 96 lp96_11 (sd245 a b)=some q from fun q hq=>yg (ks:=[6,25,26,27]) (st':=(sd248 a b)) (st1:=(sd247 a b)) [.dec true,.op (some 33) ⟨.lsl 2 0 a.l.length 2 none,[],[],3⟩] (Ai (l11) (Ai (Eq.refl true) trivial)) (by kernel_rfl) (by (simp only [sd247,sd248,go_sem,List.length_set,Nat.reduceAdd,Nat.reduceEqDiff,Nat.reduceLT,Nat.reduceLeDiff,bI2,zf.idsL,zf.renL,zf.snapAll,z7.idsL,z7.renL,z7.snapAll]) <;> rfl) hq (by kernel_rfl))
     have p3:=(show (lim cfg).inl 96 [.lsl 1 0 2 1 (some 2)] [(1,⟨[.sl a.nl (a.l.map Sn.D) (zsl a.nl 2) none,.sl b.nl (b.l.map Sn.D) (zsl b.nl 2) none],1,false⟩)] 2=some (.lsl 2 0 a.l.length 2 none,[(1,⟨[.sl a.nl (a.l.map Sn.D) (zsl a.nl 2) none,.sl b.nl (b.l.map Sn.D) (zsl b.nl 2) none],1,false⟩),(2,⟨a.l.map Sn.D,2,false⟩)],3) from zy [.loop (.exit 0) (sd225 a b),.inl (.lsl 2 0 0 2 none) [(2,⟨(List.replicate (a.l.length+b.l.length) (⟨0,0⟩:Sn)).map Sn.D,2,false⟩)] 3,.gloop (sd226 a b) (.exit 2) (sd249 a b)] (Ai (show (lim cfg).loop 96 lp96_11 (sd226 a b)=some ((.exit 2),(sd249 a b)) from (l10 _ (l12 _ (zP [.dec false] (Ai (Eq.refl false) trivial) (by kernel_rfl))))) (Ai (gc_of (C:=cfg) (f:=96) (a:=lp96_11) (ks:=[6,25,26,27]) (st:=(sd232 a b)) (st1:=(sd226 a b)) (by kernel_rfl) (by (simp only [sd226,sd232,go_sem,List.length_set,Nat.reduceAdd,Nat.reduceEqDiff,Nat.reduceLT,Nat.reduceLeDiff,bI2,zf.idsL,zf.renL,zf.snapAll,z7.idsL,z7.renL,z7.snapAll]) <;> rfl)) (Ai (show (lim cfg).inl 108 [.sl true [] 0 none,I ((a.l.length+b.l.length:Nat):Int)] [] 2=some (.lsl 2 0 0 2 none,[(2,⟨(List.replicate (a.l.length+b.l.length) (⟨0,0⟩:Sn)).map Sn.D,2,false⟩)],3) from zy [.dec false,.rw 14 (I ((a.l.length+b.l.length:Nat):Int)),.dec true,.op (some 22) ⟨.lsl 2 0 (a.l.length+b.l.length) 2 none,[(2,some ⟨(List.replicate (a.l.length+b.l.length) (⟨0,0⟩:Sn)).map Sn.D,2,false⟩)],[],3⟩,.op (some 25) ⟨.lsl 2 0 0 2 none,[],[2],3⟩] (Ai (cut_zero (C:=cfg) (objs:=[(2,⟨(List.replicate (a.l.length+b.l.length) (⟨0,0⟩:Sn)).map Sn.D,2,false⟩)]) (t:=22) (nxt:=3) (o:=2) (sz:=2) (len:=(a.l.length+b.l.length)) rfl rfl rfl rfl (by omega)) (Ai (app_zero (C:=cfg) (gO:=zF []) (nxt:=2) (t:=22) (t':=3) (te:=yw) (f:=Sn.D) (sz:=2) (k:=.i64) (n:=((a.l.length+b.l.length:Nat):Int)) (els0:=[]) (sz0:=0) (cap0:=none) (⟨0,0⟩:Sn) rfl rfl rfl rfl rfl (by kernel_rfl) (by decide) rfl (by omega) ⟨by simp only [yw,big] <;> (first | assumption | omega | (exact yh (by omega) (by omega)) | (exact zT (by omega)) | (exact zK (by omega)) | (exact zU (by omega)) | (exact zM (by omega)) | (exact zB _ (by omega)) | (simp only [zo] at * <;> omega) | (simp only [zG,GS.some_l,List.length_set,List.length_append,List.length_cons,List.length_nil] at * <;> first | with_reducible assumption | omega) | (simp only [zG,GS.some_l,List.length_set,List.length_append,List.length_cons,List.length_nil,zo] at * <;> first | with_reducible assumption | omega) | (simp at * <;> omega)),by simp only [big] <;> (first | assumption | omega | (exact yh (by omega) (by omega)) | (exact zT (by omega)) | (exact zK (by omega)) | (exact zU (by omega)) | (exact zM (by omega)) | (exact zB _ (by omega)) | (simp only [zo] at * <;> omega) | (simp only [zG,GS.some_l,List.length_set,List.length_append,List.length_cons,List.length_nil] at * <;> first | with_reducible assumption | omega) | (simp only [zG,GS.some_l,List.length_set,List.length_append,List.length_cons,List.length_nil,zo] at * <;> first | with_reducible assumption | omega) | (simp at * <;> omega))⟩) (Ai h2 (Ai (sub0_rw (x:=a.l.length+b.l.length) (by omega)) (Ai (show decide (((a.l.length+b.l.length:Nat):Int) < 0)=false from (decide_eq_false (by omega))) trivial))))) (by kernel_rfl)) (Ai (show (lim cfg).loop 96 lp96_3 (sd222 a b)=some ((.exit 0),(sd225 a b)) from (l2 _ (l4 _ (zP [.dec false] (Ai (Eq.refl false) trivial) (by kernel_rfl))))) trivial)))) (by kernel_rfl))
     cases h19:yc (zq zp a.l) 0 with
     | x0 va4p2_0 =>
      try dsimp only
      have hv_h19:=ivt_ranges_gathered_4p2 a (zq zp a.l) (zq zp a.l) 0 (List.drop_zero) (Nat.zero_le _) (by simp only [zG,GS.some_l,List.length_set,List.length_append,List.length_cons,List.length_nil] at * <;> first | with_reducible assumption | omega) (by simp only [zG,GS.some_l,List.length_set,List.length_append,List.length_cons,List.length_nil] at * <;> first | with_reducible assumption | omega)
      rw [h19] at hv_h19
      obtain ⟨hv_h19_0,hv_h19_1⟩:=hv_h19
      try dsimp only [ya] at hv_h19_0
      try dsimp only [ya] at hv_h19_1
      cases h20:decide (((va4p2_0.length:Nat):Int) > 64) with
      | true =>
       have g20:=of_decide_eq_true h20
       exact zt ((ranges_Union_o2 a b)++[.inlS [2] (.tup [.sl true [] 0 none,I 2]) [(2,⟨(zq zp a.l).map Sn.D,2,false⟩),(3,⟨va4p2_0.map Sn.D,2,false⟩)] 4]) (Ai (Ai (show zk [(0,⟨[.sl a.nl (a.l.map Sn.D) (zsl a.nl 2) none,.sl b.nl (b.l.map Sn.D) (zsl b.nl 2) none],1,false⟩),(1,⟨[.sl a.nl (a.l.map Sn.D) (zsl a.nl 2) none,.sl b.nl (b.l.map Sn.D) (zsl b.nl 2) none],1,false⟩),(2,⟨a.l.map Sn.D,2,false⟩)] 256 [2] []=some [2] from (by (simp only [zk,go_sem,List.length_set,Nat.reduceAdd,Nat.reduceEqDiff,Nat.reduceLT,Nat.reduceLeDiff,bI2,zf.idsL,zf.renL,zf.snapAll,z7.idsL,z7.renL,z7.snapAll]) <;> rfl)) (show (lim cfg).inl 69 [.lsl 2 0 a.l.length 2 none] [(2,⟨a.l.map Sn.D,2,false⟩)] 3=some (.tup [.sl true [] 0 none,I 2],[(2,⟨(zq zp a.l).map Sn.D,2,false⟩),(3,⟨va4p2_0.map Sn.D,2,false⟩)],4) from zy [.inlS [2] (.tup []) [(2,⟨(zq zp a.l).map Sn.D,2,false⟩)] 3,.gloop (sd251 a) (.exit 0) (sd252 a va4p2_0),.dec true] (Ai h20 (Ai (yi (q:=zX a (zq zp a.l)) (lp_ranges_gathered_4p2 a (zq zp a.l) (zq zp a.l) 0 (List.drop_zero) (Nat.zero_le _) (by simp only [zG,GS.some_l,List.length_set,List.length_append,List.length_cons,List.length_nil] at * <;> first | with_reducible assumption | omega) (by simp only [zG,GS.some_l,List.length_set,List.length_append,List.length_cons,List.length_nil] at * <;> first | with_reducible assumption | omega)) h19) (Ai (gc_of (C:=cfg) (f:=69) (a:=lp69_4) (ks:=[4,10,11,12]) (st:=(sd250 a)) (st1:=(sd251 a)) (by kernel_rfl) (by (simp only [sd250,sd251,go_sem,List.length_set,Nat.reduceAdd,Nat.reduceEqDiff,Nat.reduceLT,Nat.reduceLeDiff,bI2,zf.idsL,zf.renL,zf.snapAll,z7.idsL,z7.renL,z7.snapAll]) <;> rfl)) (Ai (Ai (show zk [(2,⟨a.l.map Sn.D,2,false⟩)] 256 [2] []=some [2] from (by (simp only [zk,go_sem,List.length_set,Nat.reduceAdd,Nat.reduceEqDiff,Nat.reduceLT,Nat.reduceLeDiff,bI2,zf.idsL,zf.renL,zf.snapAll,z7.idsL,z7.renL,z7.snapAll]) <;> rfl)) (T_sort 2 3 none a.l (by omega))) trivial)))) (by kernel_rfl))) (Ai p3 (Ai h1 (Ai p1 trivial)))) (by kernel_rfl)
      | false =>
       have g20:=of_decide_eq_false h20
       exact po_pureS ((ranges_Union_o2 a b)++[.inlS [2] (.tup [.lsl 3 0 va4p2_0.length 2 none,I 0]) [(2,⟨(zq zp a.l).map Sn.D,2,false⟩),(3,⟨va4p2_0.map Sn.D,2,false⟩)] 4]) [(3,.sl false (va4p2_0.map Sn.D) 2 none,[3])] (Ai (snap_row (gO:=zF [(0,⟨[.sl a.nl (a.l.map Sn.D) (zsl a.nl 2) none,.sl b.nl (b.l.map Sn.D) (zsl b.nl 2) none],1,false⟩),(1,⟨[.sl a.nl (a.l.map Sn.D) (zsl a.nl 2) none,.sl b.nl (b.l.map Sn.D) (zsl b.nl 2) none],1,false⟩),(2,⟨(zq zp a.l).map Sn.D,2,false⟩),(3,⟨va4p2_0.map Sn.D,2,false⟩)]) (o:=3) (len:=va4p2_0.length) (cap:=none) (fz:=false) z7 va4p2_0 (by kernel_rfl) (by omega)) (Ai (Ai (show zk [(0,⟨[.sl a.nl (a.l.map Sn.D) (zsl a.nl 2) none,.sl b.nl (b.l.map Sn.D) (zsl b.nl 2) none],1,false⟩),(1,⟨[.sl a.nl (a.l.map Sn.D) (zsl a.nl 2) none,.sl b.nl (b.l.map Sn.D) (zsl b.nl 2) none],1,false⟩),(2,⟨a.l.map Sn.D,2,false⟩)] 256 [2] []=some [2] from (by (simp only [zk,go_sem,List.length_set,Nat.reduceAdd,Nat.reduceEqDiff,Nat.reduceLT,Nat.reduceLeDiff,bI2,zf.idsL,zf.renL,zf.snapAll,z7.idsL,z7.renL,z7.snapAll]) <;> rfl)) (show (lim cfg).inl 69 [.lsl 2 0 a.l.length 2 none] [(2,⟨a.l.map Sn.D,2,false⟩)] 3=some (.tup [.lsl 3 0 va4p2_0.length 2 none,I 0],[(2,⟨(zq zp a.l).map Sn.D,2,false⟩),(3,⟨va4p2_0.map Sn.D,2,false⟩)],4) from zy [.inlS [2] (.tup []) [(2,⟨(zq zp a.l).map Sn.D,2,false⟩)] 3,.gloop (sd251 a) (.exit 0) (sd252 a va4p2_0),.dec false] (Ai h20 (Ai (yi (q:=zX a (zq zp a.l)) (lp_ranges_gathered_4p2 a (zq zp a.l) (zq zp a.l) 0 (List.drop_zero) (Nat.zero_le _) (by simp only [zG,GS.some_l,List.length_set,List.length_append,List.length_cons,List.length_nil] at * <;> first | with_reducible assumption | omega) (by simp only [zG,GS.some_l,List.length_set,List.length_append,List.length_cons,List.length_nil] at * <;> first | with_reducible assumption | omega)) h19) (Ai (gc_of (C:=cfg) (f:=69) (a:=lp69_4) (ks:=[4,10,11,12]) (st:=(sd250 a)) (st1:=(sd251 a)) (by kernel_rfl) (by (simp only [sd250,sd251,go_sem,List.length_set,Nat.reduceAdd,Nat.reduceEqDiff,Nat.reduceLT,Nat.reduceLeDiff,bI2,zf.idsL,zf.renL,zf.snapAll,z7.idsL,z7.renL,z7.snapAll]) <;> rfl)) (Ai (Ai (show zk [(2,⟨a.l.map Sn.D,2,false⟩)] 256 [2] []=some [2] from (by (simp only [zk,go_sem,List.length_set,Nat.reduceAdd,Nat.reduceEqDiff,Nat.reduceLT,Nat.reduceLeDiff,bI2,zf.idsL,zf.renL,zf.snapAll,z7.idsL,z7.renL,z7.snapAll]) <;> rfl)) (T_sort 2 3 none a.l (by omega))) trivial)))) (by kernel_rfl))) (Ai p3 (Ai h1 (Ai p1 trivial))))) (by kernel_rfl)
     | x1 i4p2 x4p2 va4p2_0 =>
      try dsimp only
      have hv_h19:=ivt_ranges_gathered_4p2 a (zq zp a.l) (zq zp a.l) 0 (List.drop_zero) (Nat.zero_le _) (by simp only [zG,GS.some_l,List.length_set,List.length_append,List.length_cons,List.length_nil] at * <;> first | with_reducible assumption | omega) (by simp only [zG,GS.some_l,List.length_set,List.length_append,List.length_cons,List.length_nil] at * <;> first | with_reducible assumption | omega)
      rw [h19] at hv_h19
      obtain ⟨hv_h19_0,hv_h19_1⟩:=hv_h19
      try dsimp only [ya] at hv_h19_0
      try dsimp only [ya] at hv_h19_1
      exact zt ((ranges_Union_o2 a b)++[.inlS [2] (.tup [.sl true [] 0 none,I 2]) [(2,⟨(zq zp a.l).map Sn.D,2,false⟩),(3,⟨va4p2_0.map Sn.D,2,false⟩),(4,⟨[.agg [I x4p2.lo,I x4p2.hi]],2,false⟩)] 5]) (Ai (Ai (show zk [(0,⟨[.sl a.nl (a.l.map Sn.D) (zsl a.nl 2) none,.sl b.nl (b.l.map Sn.D) (zsl b.nl 2) none],1,false⟩),(1,⟨[.sl a.nl (a.l.map Sn.D) (zsl a.nl 2) none,.sl b.nl (b.l.map Sn.D) (zsl b.nl 2) none],1,false⟩),(2,⟨a.l.map Sn.D,2,false⟩)] 256 [2] []=some [2] from (by (simp only [zk,go_sem,List.length_set,Nat.reduceAdd,Nat.reduceEqDiff,Nat.reduceLT,Nat.reduceLeDiff,bI2,zf.idsL,zf.renL,zf.snapAll,z7.idsL,z7.renL,z7.snapAll]) <;> rfl)) (show (lim cfg).inl 69 [.lsl 2 0 a.l.length 2 none] [(2,⟨a.l.map Sn.D,2,false⟩)] 3=some (.tup [.sl true [] 0 none,I 2],[(2,⟨(zq zp a.l).map Sn.D,2,false⟩),(3,⟨va4p2_0.map Sn.D,2,false⟩),(4,⟨[.agg [I x4p2.lo,I x4p2.hi]],2,false⟩)],5) from zy [.inlS [2] (.tup []) [(2,⟨(zq zp a.l).map Sn.D,2,false⟩)] 3,.gloop (sd251 a) .ret (sd253 a i4p2 x4p2 va4p2_0)] (Ai (yi (q:=zX a (zq zp a.l)) (lp_ranges_gathered_4p2 a (zq zp a.l) (zq zp a.l) 0 (List.drop_zero) (Nat.zero_le _) (by simp only [zG,GS.some_l,List.length_set,List.length_append,List.length_cons,List.length_nil] at * <;> first | with_reducible assumption | omega) (by simp only [zG,GS.some_l,List.length_set,List.length_append,List.length_cons,List.length_nil] at * <;> first | with_reducible assumption | omega)) h19) (Ai (gc_of (C:=cfg) (f:=69) (a:=lp69_4) (ks:=[4,10,11,12]) (st:=(sd250 a)) (st1:=(sd251 a)) (by kernel_rfl) (by (simp only [sd250,sd251,go_sem,List.length_set,Nat.reduceAdd,Nat.reduceEqDiff,Nat.reduceLT,Nat.reduceLeDiff,bI2,zf.idsL,zf.renL,zf.snapAll,z7.idsL,z7.renL,z7.snapAll]) <;> rfl)) (Ai (Ai (show zk [(2,⟨a.l.map Sn.D,2,false⟩)] 256 [2] []=some [2] from (by (simp only [zk,go_sem,List.length_set,Nat.reduceAdd,Nat.reduceEqDiff,Nat.reduceLT,Nat.reduceLeDiff,bI2,zf.idsL,zf.renL,zf.snapAll,z7.idsL,z7.renL,z7.snapAll]) <;> rfl)) (T_sort 2 3 none a.l (by omega))) trivial))) (by kernel_rfl))) (Ai p3 (Ai h1 (Ai p1 trivial)))) (by kernel_rfl)
     | x2 i4p2 x4p2 va4p2_0 =>
      try dsimp only
      have hv_h19:=ivt_ranges_gathered_4p2 a (zq zp a.l) (zq zp a.l) 0 (List.drop_zero) (Nat.zero_le _) (by simp only [zG,GS.some_l,List.length_set,List.length_append,List.length_cons,List.length_nil] at * <;> first | with_reducible assumption | omega) (by simp only [zG,GS.some_l,List.length_set,List.length_append,List.length_cons,List.length_nil] at * <;> first | with_reducible assumption | omega)
      rw [h19] at hv_h19
      obtain ⟨hv_h19_0,hv_h19_1⟩:=hv_h19
      try dsimp only [ya] at hv_h19_0
      try dsimp only [ya] at hv_h19_1
      exact zt ((ranges_Union_o2 a b)++[.inlS [2] (.tup [.sl true [] 0 none,I 2]) [(2,⟨(zq zp a.l).map Sn.D,2,false⟩),(3,⟨va4p2_0.map Sn.D,2,false⟩),(4,⟨[.agg [I x4p2.lo,I x4p2.hi]],2,false⟩)] 5]) (Ai (Ai (show zk [(0,⟨[.sl a.nl (a.l.map Sn.D) (zsl a.nl 2) none,.sl b.nl (b.l.map Sn.D) (zsl b.nl 2) none],1,false⟩),(1,⟨[.sl a.nl (a.l.map Sn.D) (zsl a.nl 2) none,.sl b.nl (b.l.map Sn.D) (zsl b.nl 2) none],1,false⟩),(2,⟨a.l.map Sn.D,2,false⟩)] 256 [2] []=some [2] from (by (simp only [zk,go_sem,List.length_set,Nat.reduceAdd,Nat.reduceEqDiff,Nat.reduceLT,Nat.reduceLeDiff,bI2,zf.idsL,zf.renL,zf.snapAll,z7.idsL,z7.renL,z7.snapAll]) <;> rfl)) (show (lim cfg).inl 69 [.lsl 2 0 a.l.length 2 none] [(2,⟨a.l.map Sn.D,2,false⟩)] 3=some (.tup [.sl true [] 0 none,I 2],[(2,⟨(zq zp a.l).map Sn.D,2,false⟩),(3,⟨va4p2_0.map Sn.D,2,false⟩),(4,⟨[.agg [I x4p2.lo,I x4p2.hi]],2,false⟩)],5) from zy [.inlS [2] (.tup []) [(2,⟨(zq zp a.l).map Sn.D,2,false⟩)] 3,.gloop (sd251 a) .ret (sd254 a i4p2 x4p2 va4p2_0)] (Ai (yi (q:=zX a (zq zp a.l)) (lp_ranges_gathered_4p2 a (zq zp a.l) (zq zp a.l) 0 (List.drop_zero) (Nat.zero_le _) (by simp only [zG,GS.some_l,List.length_set,List.length_append,List.length_cons,List.length_nil] at * <;> first | with_reducible assumption | omega) (by simp only [zG,GS.some_l,List.length_set,List.length_append,List.length_cons,List.length_nil] at * <;> first | with_reducible assumption | omega)) h19) (Ai (gc_of (C:=cfg) (f:=69) (a:=lp69_4) (ks:=[4,10,11,12]) (st:=(sd250 a)) (st1:=(sd251 a)) (by kernel_rfl) (by (simp only [sd250,sd251,go_sem,List.length_set,Nat.reduceAdd,Nat.reduceEqDiff,Nat.reduceLT,Nat.reduceLeDiff,bI2,zf.idsL,zf.renL,zf.snapAll,z7.idsL,z7.renL,z7.snapAll]) <;> rfl)) (Ai (Ai (show zk [(2,⟨a.l.map Sn.D,2,false⟩)] 256 [2] []=some [2] from (by (simp only [zk,go_sem,List.length_set,Nat.reduceAdd,Nat.reduceEqDiff,Nat.reduceLT,Nat.reduceLeDiff,bI2,zf.idsL,zf.renL,zf.snapAll,z7.idsL,z7.renL,z7.snapAll]) <;> rfl)) (T_sort 2 3 none a.l (by omega))) trivial))) (by kernel_rfl))) (Ai p3 (Ai h1 (Ai p1 trivial)))) (by kernel_rfl)
     | x3 =>
      try dsimp only
      exact zt ((ranges_Union_o2 a b)++[.inlS [2] (.tup [.sl true [] 0 none,I 0]) [(2,⟨(zq zp a.l).map Sn.D,2,false⟩)] 3]) (Ai (Ai (show zk [(0,⟨[.sl a.nl (a.l.map Sn.D) (zsl a.nl 2) none,.sl b.nl (b.l.map Sn.D) (zsl b.nl 2) none],1,false⟩),(1,⟨[.sl a.nl (a.l.map Sn.D) (zsl a.nl 2) none,.sl b.nl (b.l.map Sn.D) (zsl b.nl 2) none],1,false⟩),(2,⟨a.l.map Sn.D,2,false⟩)] 256 [2] []=some [2] from (by (simp only [zk,go_sem,List.length_set,Nat.reduceAdd,Nat.reduceEqDiff,Nat.reduceLT,Nat.reduceLeDiff,bI2,zf.idsL,zf.renL,zf.snapAll,z7.idsL,z7.renL,z7.snapAll]) <;> rfl)) (show (lim cfg).inl 69 [.lsl 2 0 a.l.length 2 none] [(2,⟨a.l.map Sn.D,2,false⟩)] 3=some (.tup [.sl true [] 0 none,I 0],[(2,⟨(zq zp a.l).map Sn.D,2,false⟩)],3) from zy [.inlS [2] (.tup []) [(2,⟨(zq zp a.l).map Sn.D,2,false⟩)] 3,.gloop (sd251 a) (.exit 0) (sd255 a),.dec false] (Ai (Eq.refl false) (Ai (yi (q:=zX a (zq zp a.l)) (lp_ranges_gathered_4p2 a (zq zp a.l) (zq zp a.l) 0 (List.drop_zero) (Nat.zero_le _) (by simp only [zG,GS.some_l,List.length_set,List.length_append,List.length_cons,List.length_nil] at * <;> first | with_reducible assumption | omega) (by simp only [zG,GS.some_l,List.length_set,List.length_append,List.length_cons,List.length_nil] at * <;> first | with_reducible assumption | omega)) h19) (Ai (gc_of (C:=cfg) (f:=69) (a:=lp69_4) (ks:=[4,10,11,12]) (st:=(sd250 a)) (st1:=(sd251 a)) (by kernel_rfl) (by (simp only [sd250,sd251,go_sem,List.length_set,Nat.reduceAdd,Nat.reduceEqDiff,Nat.reduceLT,Nat.reduceLeDiff,bI2,zf.idsL,zf.renL,zf.snapAll,z7.idsL,z7.renL,z7.snapAll]) <;> rfl)) (Ai (Ai (show zk [(2,⟨a.l.map Sn.D,2,false⟩)] 256 [2] []=some [2] from (by (simp only [zk,go_sem,List.length_set,Nat.reduceAdd,Nat.reduceEqDiff,Nat.reduceLT,Nat.reduceLeDiff,bI2,zf.idsL,zf.renL,zf.snapAll,z7.idsL,z7.renL,z7.snapAll]) <;> rfl)) (T_sort 2 3 none a.l (by omega))) trivial)))) (by kernel_rfl))) (Ai p3 (Ai h1 (Ai p1 trivial)))) (by kernel_rfl)
     | x4 i4p2 x4p2 =>
      try dsimp only
      exact zt ((ranges_Union_o2 a b)++[.inlS [2] (.tup [.sl true [] 0 none,I 2]) [(2,⟨(zq zp a.l).map Sn.D,2,false⟩),(3,⟨[.agg [I x4p2.lo,I x4p2.hi]],2,false⟩)] 4]) (Ai (Ai (show zk [(0,⟨[.sl a.nl (a.l.map Sn.D) (zsl a.nl 2) none,.sl b.nl (b.l.map Sn.D) (zsl b.nl 2) none],1,false⟩),(1,⟨[.sl a.nl (a.l.map Sn.D) (zsl a.nl 2) none,.sl b.nl (b.l.map Sn.D) (zsl b.nl 2) none],1,false⟩),(2,⟨a.l.map Sn.D,2,false⟩)] 256 [2] []=some [2] from (by (simp only [zk,go_sem,List.length_set,Nat.reduceAdd,Nat.reduceEqDiff,Nat.reduceLT,Nat.reduceLeDiff,bI2,zf.idsL,zf.renL,zf.snapAll,z7.idsL,z7.renL,z7.snapAll]) <;> rfl)) (show (lim cfg).inl 69 [.lsl 2 0 a.l.length 2 none] [(2,⟨a.l.map Sn.D,2,false⟩)] 3=some (.tup [.sl true [] 0 none,I 2],[(2,⟨(zq zp a.l).map Sn.D,2,false⟩),(3,⟨[.agg [I x4p2.lo,I x4p2.hi]],2,false⟩)],4) from zy [.inlS [2] (.tup []) [(2,⟨(zq zp a.l).map Sn.D,2,false⟩)] 3,.gloop (sd251 a) .ret (sd256 a i4p2 x4p2)] (Ai (yi (q:=zX a (zq zp a.l)) (lp_ranges_gathered_4p2 a (zq zp a.l) (zq zp a.l) 0 (List.drop_zero) (Nat.zero_le _) (by simp only [zG,GS.some_l,List.length_set,List.length_append,List.length_cons,List.length_nil] at * <;> first | with_reducible assumption | omega) (by simp only [zG,GS.some_l,List.length_set,List.length_append,List.length_cons,List.length_nil] at * <;> first | with_reducible assumption | omega)) h19) (Ai (gc_of (C:=cfg) (f:=69) (a:=lp69_4) (ks:=[4,10,11,12]) (st:=(sd250 a)) (st1:=(sd251 a)) (by kernel_rfl) (by (simp only [sd250,sd251,go_sem,List.length_set,Nat.reduceAdd,Nat.reduceEqDiff,Nat.reduceLT,Nat.reduceLeDiff,bI2,zf.idsL,zf.renL,zf.snapAll,z7.idsL,z7.renL,z7.snapAll]) <;> rfl)) (Ai (Ai (show zk [(2,⟨a.l.map Sn.D,2,false⟩)] 256 [2] []=some [2] from (by (simp only [zk,go_sem,List.length_set,Nat.reduceAdd,Nat.reduceEqDiff,Nat.reduceLT,Nat.reduceLeDiff,bI2,zf.idsL,zf.renL,zf.snapAll,z7.idsL,z7.renL,z7.snapAll]) <;> rfl)) (T_sort 2 3 none a.l (by omega))) trivial))) (by kernel_rfl))) (Ai p3 (Ai h1 (Ai p1 trivial)))) (by kernel_rfl)
     | x5 i4p2 x4p2 =>
      try dsimp only
      exact zt ((ranges_Union_o2 a b)++[.inlS [2] (.tup [.sl true [] 0 none,I 2]) [(2,⟨(zq zp a.l).map Sn.D,2,false⟩),(3,⟨[.agg [I x4p2.lo,I x4p2.hi]],2,false⟩)] 4]) (Ai (Ai (show zk [(0,⟨[.sl a.nl (a.l.map Sn.D) (zsl a.nl 2) none,.sl b.nl (b.l.map Sn.D) (zsl b.nl 2) none],1,false⟩),(1,⟨[.sl a.nl (a.l.map Sn.D) (zsl a.nl 2) none,.sl b.nl (b.l.map Sn.D) (zsl b.nl 2) none],1,false⟩),(2,⟨a.l.map Sn.D,2,false⟩)] 256 [2] []=some [2] from (by (simp only [zk,go_sem,List.length_set,Nat.reduceAdd,Nat.reduceEqDiff,Nat.reduceLT,Nat.reduceLeDiff,bI2,zf.idsL,zf.renL,zf.snapAll,z7.idsL,z7.renL,z7.snapAll]) <;> rfl)) (show (lim cfg).inl 69 [.lsl 2 0 a.l.length 2 none] [(2,⟨a.l.map Sn.D,2,false⟩)] 3=some (.tup [.sl true [] 0 none,I 2],[(2,⟨(zq zp a.l).map Sn.D,2,false⟩),(3,⟨[.agg [I x4p2.lo,I x4p2.hi]],2,false⟩)],4) from zy [.inlS [2] (.tup []) [(2,⟨(zq zp a.l).map Sn.D,2,false⟩)] 3,.gloop (sd251 a) .ret (sd257 a i4p2 x4p2)] (Ai (yi (q:=zX a (zq zp a.l)) (lp_ranges_gathered_4p2 a (zq zp a.l) (zq zp a.l) 0 (List.drop_zero) (Nat.zero_le _) (by simp only [zG,GS.some_l,List.length_set,List.length_append,List.length_cons,List.length_nil] at * <;> first | with_reducible assumption | omega) (by simp only [zG,GS.some_l,List.length_set,List.length_append,List.length_cons,List.length_nil] at * <;> first | with_reducible assumption | omega)) h19) (Ai (gc_of (C:=cfg) (f:=69) (a:=lp69_4) (ks:=[4,10,11,12]) (st:=(sd250 a)) (st1:=(sd251 a)) (by kernel_rfl) (by (simp only [sd250,sd251,go_sem,List.length_set,Nat.reduceAdd,Nat.reduceEqDiff,Nat.reduceLT,Nat.reduceLeDiff,bI2,zf.idsL,zf.renL,zf.snapAll,z7.idsL,z7.renL,z7.snapAll]) <;> rfl)) (Ai (Ai (show zk [(2,⟨a.l.map Sn.D,2,false⟩)] 256 [2] []=some [2] from (by (simp only [zk,go_sem,List.length_set,Nat.reduceAdd,Nat.reduceEqDiff,Nat.reduceLT,Nat.reduceLeDiff,bI2,zf.idsL,zf.renL,zf.snapAll,z7.idsL,z7.renL,z7.snapAll]) <;> rfl)) (T_sort 2 3 none a.l (by omega))) trivial))) (by kernel_rfl))) (Ai p3 (Ai h1 (Ai p1 trivial)))) (by kernel_rfl)
    | false =>
     have l13:=(app_fillD (te:=yw) (gO:=zF [(1,⟨[.sl a.nl (a.l.map Sn.D) (zsl a.nl 2) none,.sl b.nl (b.l.map Sn.D) (zsl b.nl 2) none],1,false⟩),(2,⟨(List.replicate (a.l.length+b.l.length) (⟨0,0⟩:Sn)).map Sn.D,2,false⟩)]) (nxt:=3) (o:=2) (v:=[]) (z:=(⟨0,0⟩:Sn)) (n:=(a.l.length+b.l.length)) z7 a h3 (by kernel_rfl) rfl (by kernel_rfl) (by decide) (by omega) ⟨by simp only [yw,big] <;> (first | assumption | omega | (exact yh (by omega) (by omega)) | (exact zT (by omega)) | (exact zK (by omega)) | (exact zU (by omega)) | (exact zM (by omega)) | (exact zB _ (by omega)) | (simp only [zo] at * <;> omega) | (simp only [zG,GS.some_l,List.length_set,List.length_append,List.length_cons,List.length_nil] at * <;> first | with_reducible assumption | omega) | (simp only [zG,GS.some_l,List.length_set,List.length_append,List.length_cons,List.length_nil,zo] at * <;> first | with_reducible assumption | omega) | (simp at * <;> omega)),by simp only [big] <;> (first | assumption | omega | (exact yh (by omega) (by omega)) | (exact zT (by omega)) | (exact zK (by omega)) | (exact zU (by omega)) | (exact zM (by omega)) | (exact zB _ (by omega)) | (simp only [zo] at * <;> omega) | (simp only [zG,GS.some_l,List.length_set,List.length_append,List.length_cons,List.length_nil] at * <;> first | with_reducible assumption | omega) | (simp only [zG,GS.some_l,List.length_set,List.length_append,List.length_cons,List.length_nil,zo] at * <;> first | with_reducible assumption | omega) | (simp at * <;> omega))⟩)
     have l14:=(show ∀ q,(lim cfg).loop 96 lp96_11 (sd258 a b)=some q→(lim cfg).loop 96 lp96_11 (sd226 a b)=some q from fun q hq=>yg (ks:=[6,25,26,27]) (st':=(sd259 a b)) (st1:=(sd258 a b)) [.dec true,.op (some 33) ⟨.lsl 2 0 a.l.length 2 none,[(2,some ⟨(a.l++List.replicate ((a.l.length+b.l.length) - a.l.length) (⟨0,0⟩:Sn)).map Sn.D,2,false⟩)],[2],3⟩,.rw 34 (I 1)] (Ai (zadd_rw (x:=1) (by omega)) (Ai (l13) (Ai (Eq.refl true) trivial))) (by kernel_rfl) (by (simp only [sd258,sd259,go_sem,List.length_set,Nat.reduceAdd,Nat.reduceEqDiff,Nat.reduceLT,Nat.reduceLeDiff,bI2,zf.idsL,zf.renL,zf.snapAll,z7.idsL,z7.renL,z7.snapAll]) <;> rfl) hq (by kernel_rfl))
     have l15:=(app_fullD (te:=yw) (gO:=zF [(1,⟨[.sl a.nl (a.l.map Sn.D) (zsl a.nl 2) none,.sl b.nl (b.l.map Sn.D) (zsl b.nl 2) none],1,false⟩),(2,⟨(a.l++List.replicate ((a.l.length+b.l.length) - a.l.length) (⟨0,0⟩:Sn)).map Sn.D,2,false⟩)]) (nxt:=3) (o:=2) (v:=a.l) (z:=(⟨0,0⟩:Sn)) (n:=((a.l.length+b.l.length) - a.l.length)) z7 b h18 (by kernel_rfl) rfl (by kernel_rfl) (by decide) (by omega) ⟨by simp only [yw,big] <;> (first | assumption | omega | (exact yh (by omega) (by omega)) | (exact zT (by omega)) | (exact zK (by omega)) | (exact zU (by omega)) | (exact zM (by omega)) | (exact zB _ (by omega)) | (simp only [zo] at * <;> omega) | (simp only [zG,GS.some_l,List.length_set,List.length_append,List.length_cons,List.length_nil] at * <;> first | with_reducible assumption | omega) | (simp only [zG,GS.some_l,List.length_set,List.length_append,List.length_cons,List.length_nil,zo] at * <;> first | with_reducible assumption | omega) | (simp at * <;> omega)),by simp only [big] <;> (first | assumption | omega | (exact yh (by omega) (by omega)) | (exact zT (by omega)) | (exact zK (by omega)) | (exact zU (by omega)) | (exact zM (by omega)) | (exact zB _ (by omega)) | (simp only [zo] at * <;> omega) | (simp only [zG,GS.some_l,List.length_set,List.length_append,List.length_cons,List.length_nil] at * <;> first | with_reducible assumption | omega) | (simp only [zG,GS.some_l,List.length_set,List.length_append,List.length_cons,List.length_nil,zo] at * <;> first | with_reducible assumption | omega) | (simp at * <;> omega))⟩)
     have l16:=(show ∀ q,(lim cfg).loop 96 lp96_11 (sd260 a b)=some q→(lim cfg).loop 96 lp96_11 (sd258 a b)=some q from fun q hq=>yg (ks:=[6,25,26,27]) (st':=(sd261 a b)) (st1:=(sd260 a b)) [.dec true,.op (some 33) ⟨.lsl 2 0 ((a.l++b.l).length) 2 none,[(2,some ⟨(a.l++b.l).map Sn.D,2,false⟩)],[2],3⟩] (Ai (l15) (Ai (Eq.refl true) trivial)) (by kernel_rfl) (by (simp only [sd260,sd261,go_sem,List.length_set,Nat.reduceAdd,Nat.reduceEqDiff,Nat.reduceLT,Nat.reduceLeDiff,bI2,zf.idsL,zf.renL,zf.snapAll,z7.idsL,z7.renL,z7.snapAll]) <;> rfl) hq (by kernel_rfl))
     have p4:=(show (lim cfg).inl 96 [.lsl 1 0 2 1 (some 2)] [(1,⟨[.sl a.nl (a.l.map Sn.D) (zsl a.nl 2) none,.sl b.nl (b.l.map Sn.D) (zsl b.nl 2) none],1,false⟩)] 2=some (.lsl 2 0 ((a.l++b.l).length) 2 none,[(1,⟨[.sl a.nl (a.l.map Sn.D) (zsl a.nl 2) none,.sl b.nl (b.l.map Sn.D) (zsl b.nl 2) none],1,false⟩),(2,⟨(a.l++b.l).map Sn.D,2,false⟩)],3) from zy [.loop (.exit 0) (sd225 a b),.inl (.lsl 2 0 0 2 none) [(2,⟨(List.replicate (a.l.length+b.l.length) (⟨0,0⟩:Sn)).map Sn.D,2,false⟩)] 3,.gloop (sd226 a b) (.exit 2) (sd262 a b)] (Ai (show (lim cfg).loop 96 lp96_11 (sd226 a b)=some ((.exit 2),(sd262 a b)) from (l14 _ (l16 _ (zP [.dec false] (Ai (Eq.refl false) trivial) (by kernel_rfl))))) (Ai (gc_of (C:=cfg) (f:=96) (a:=lp96_11) (ks:=[6,25,26,27]) (st:=(sd232 a b)) (st1:=(sd226 a b)) (by kernel_rfl) (by (simp only [sd226,sd232,go_sem,List.length_set,Nat.reduceAdd,Nat.reduceEqDiff,Nat.reduceLT,Nat.reduceLeDiff,bI2,zf.idsL,zf.renL,zf.snapAll,z7.idsL,z7.renL,z7.snapAll]) <;> rfl)) (Ai (show (lim cfg).inl 108 [.sl true [] 0 none,I ((a.l.length+b.l.length:Nat):Int)] [] 2=some (.lsl 2 0 0 2 none,[(2,⟨(List.replicate (a.l.length+b.l.length) (⟨0,0⟩:Sn)).map Sn.D,2,false⟩)],3) from zy [.dec false,.rw 14 (I ((a.l.length+b.l.length:Nat):Int)),.dec true,.op (some 22) ⟨.lsl 2 0 (a.l.length+b.l.length) 2 none,[(2,some ⟨(List.replicate (a.l.length+b.l.length) (⟨0,0⟩:Sn)).map Sn.D,2,false⟩)],[],3⟩,.op (some 25) ⟨.lsl 2 0 0 2 none,[],[2],3⟩] (Ai (cut_zero (C:=cfg) (objs:=[(2,⟨(List.replicate (a.l.length+b.l.length) (⟨0,0⟩:Sn)).map Sn.D,2,false⟩)]) (t:=22) (nxt:=3) (o:=2) (sz:=2) (len:=(a.l.length+b.l.length)) rfl rfl rfl rfl (by omega)) (Ai (app_zero (C:=cfg) (gO:=zF []) (nxt:=2) (t:=22) (t':=3) (te:=yw) (f:=Sn.D) (sz:=2) (k:=.i64) (n:=((a.l.length+b.l.length:Nat):Int)) (els0:=[]) (sz0:=0) (cap0:=none) (⟨0,0⟩:Sn) rfl rfl rfl rfl rfl (by kernel_rfl) (by decide) rfl (by omega) ⟨by simp only [yw,big] <;> (first | assumption | omega | (exact yh (by omega) (by omega)) | (exact zT (by omega)) | (exact zK (by omega)) | (exact zU (by omega)) | (exact zM (by omega)) | (exact zB _ (by omega)) | (simp only [zo] at * <;> omega) | (simp only [zG,GS.some_l,List.length_set,List.length_append,List.length_cons,List.length_nil] at * <;> first | with_reducible assumption | omega) | (simp only [zG,GS.some_l,List.length_set,List.length_append,List.length_cons,List.length_nil,zo] at * <;> first | with_reducible assumption | omega) | (simp at * <;> omega)),by simp only [big] <;> (first | assumption | omega | (exact yh (by omega) (by omega)) | (exact zT (by omega)) | (exact zK (by omega)) | (exact zU (by omega)) | (exact zM (by omega)) | (exact zB _ (by omega)) | (simp only [zo] at * <;> omega) | (simp only [zG,GS.some_l,List.length_set,List.length_append,List.length_cons,List.length_nil] at * <;> first | with_reducible assumption | omega) | (simp only [zG,GS.some_l,List.length_set,List.length_append,List.length_cons,List.length_nil,zo] at * <;> first | with_reducible assumption | omega) | (simp at * <;> omega))⟩) (Ai h2 (Ai (sub0_rw (x:=a.l.length+b.l.length) (by omega)) (Ai (show decide (((a.l.length+b.l.length:Nat):Int) < 0)=false from (decide_eq_false (by omega))) trivial))))) (by kernel_rfl)) (Ai (show (lim cfg).loop 96 lp96_3 (sd222 a b)=some ((.exit 0),(sd225 a b)) from (l2 _ (l4 _ (zP [.dec false] (Ai (Eq.refl false) trivial) (by kernel_rfl))))) trivial)))) (by kernel_rfl))
     cases h33:yt (zq zp (a.l++b.l)) 0 with
     | x0 va4p3_0 =>
      try dsimp only
      have hv_h33:=ivt_ranges_gathered_4p3 a b (zq zp (a.l++b.l)) (zq zp (a.l++b.l)) 0 (List.drop_zero) (Nat.zero_le _) (by simp only [zG,GS.some_l,List.length_set,List.length_append,List.length_cons,List.length_nil] at * <;> first | with_reducible assumption | omega) (by simp only [zG,GS.some_l,List.length_set,List.length_append,List.length_cons,List.length_nil] at * <;> first | with_reducible assumption | omega)
      rw [h33] at hv_h33
      obtain ⟨hv_h33_0,hv_h33_1⟩:=hv_h33
      try dsimp only [iv_ranges_gathered_4p3] at hv_h33_0
      try dsimp only [iv_ranges_gathered_4p3] at hv_h33_1
      cases h34:decide (((va4p3_0.length:Nat):Int) > 64) with
      | true =>
       have g34:=of_decide_eq_true h34
       exact zt ((ranges_Union_o3 a b)++[.inlS [2] (.tup [.sl true [] 0 none,I 2]) [(2,⟨(zq zp (a.l++b.l)).map Sn.D,2,false⟩),(3,⟨va4p3_0.map Sn.D,2,false⟩)] 4]) (Ai (Ai (show zk [(0,⟨[.sl a.nl (a.l.map Sn.D) (zsl a.nl 2) none,.sl b.nl (b.l.map Sn.D) (zsl b.nl 2) none],1,false⟩),(1,⟨[.sl a.nl (a.l.map Sn.D) (zsl a.nl 2) none,.sl b.nl (b.l.map Sn.D) (zsl b.nl 2) none],1,false⟩),(2,⟨(a.l++b.l).map Sn.D,2,false⟩)] 256 [2] []=some [2] from (by (simp only [zk,go_sem,List.length_set,Nat.reduceAdd,Nat.reduceEqDiff,Nat.reduceLT,Nat.reduceLeDiff,bI2,zf.idsL,zf.renL,zf.snapAll,z7.idsL,z7.renL,z7.snapAll]) <;> rfl)) (show (lim cfg).inl 69 [.lsl 2 0 ((a.l++b.l).length) 2 none] [(2,⟨(a.l++b.l).map Sn.D,2,false⟩)] 3=some (.tup [.sl true [] 0 none,I 2],[(2,⟨(zq zp (a.l++b.l)).map Sn.D,2,false⟩),(3,⟨va4p3_0.map Sn.D,2,false⟩)],4) from zy [.inlS [2] (.tup []) [(2,⟨(zq zp (a.l++b.l)).map Sn.D,2,false⟩)] 3,.gloop (sd268 a b) (.exit 0) (sd269 a b va4p3_0),.dec true] (Ai h34 (Ai (yi (q:=lr_ranges_gathered_4p3 a b (zq zp (a.l++b.l))) (lp_ranges_gathered_4p3 a b (zq zp (a.l++b.l)) (zq zp (a.l++b.l)) 0 (List.drop_zero) (Nat.zero_le _) (by simp only [zG,GS.some_l,List.length_set,List.length_append,List.length_cons,List.length_nil] at * <;> first | with_reducible assumption | omega) (by simp only [zG,GS.some_l,List.length_set,List.length_append,List.length_cons,List.length_nil] at * <;> first | with_reducible assumption | omega)) h33) (Ai (gc_of (C:=cfg) (f:=69) (a:=lp69_4) (ks:=[4,10,11,12]) (st:=(sd267 a b)) (st1:=(sd268 a b)) (by kernel_rfl) (by (simp only [sd267,sd268,go_sem,List.length_set,Nat.reduceAdd,Nat.reduceEqDiff,Nat.reduceLT,Nat.reduceLeDiff,bI2,zf.idsL,zf.renL,zf.snapAll,z7.idsL,z7.renL,z7.snapAll]) <;> rfl)) (Ai (Ai (show zk [(2,⟨(a.l++b.l).map Sn.D,2,false⟩)] 256 [2] []=some [2] from (by (simp only [zk,go_sem,List.length_set,Nat.reduceAdd,Nat.reduceEqDiff,Nat.reduceLT,Nat.reduceLeDiff,bI2,zf.idsL,zf.renL,zf.snapAll,z7.idsL,z7.renL,z7.snapAll]) <;> rfl)) (T_sort 2 3 none (a.l++b.l) (by simp only [List.length_append,List.length_cons,List.length_nil] at * <;> omega))) trivial)))) (by kernel_rfl))) (Ai p4 (Ai h1 (Ai p1 trivial)))) (by kernel_rfl)
      | false =>
       have g34:=of_decide_eq_false h34
       exact po_pureS ((ranges_Union_o3 a b)++[.inlS [2] (.tup [.lsl 3 0 va4p3_0.length 2 none,I 0]) [(2,⟨(zq zp (a.l++b.l)).map Sn.D,2,false⟩),(3,⟨va4p3_0.map Sn.D,2,false⟩)] 4]) [(3,.sl false (va4p3_0.map Sn.D) 2 none,[3])] (Ai (snap_row (gO:=zF [(0,⟨[.sl a.nl (a.l.map Sn.D) (zsl a.nl 2) none,.sl b.nl (b.l.map Sn.D) (zsl b.nl 2) none],1,false⟩),(1,⟨[.sl a.nl (a.l.map Sn.D) (zsl a.nl 2) none,.sl b.nl (b.l.map Sn.D) (zsl b.nl 2) none],1,false⟩),(2,⟨(zq zp (a.l++b.l)).map Sn.D,2,false⟩),(3,⟨va4p3_0.map Sn.D,2,false⟩)]) (o:=3) (len:=va4p3_0.length) (cap:=none) (fz:=false) z7 va4p3_0 (by kernel_rfl) (by omega)) (Ai (Ai (show zk [(0,⟨[.sl a.nl (a.l.map Sn.D) (zsl a.nl 2) none,.sl b.nl (b.l.map Sn.D) (zsl b.nl 2) none],1,false⟩),(1,⟨[.sl a.nl (a.l.map Sn.D) (zsl a.nl 2) none,.sl b.nl (b.l.map Sn.D) (zsl b.nl 2) none],1,false⟩),(2,⟨(a.l++b.l).map Sn.D,2,false⟩)] 256 [2] []=some [2] from (by (simp only [zk,go_sem,List.length_set,Nat.reduceAdd,Nat.reduceEqDiff,Nat.reduceLT,Nat.reduceLeDiff,bI2,zf.idsL,zf.renL,zf.snapAll,z7.idsL,z7.renL,z7.snapAll]) <;> rfl)) (show (lim cfg).inl 69 [.lsl 2 0 ((a.l++b.l).length) 2 none] [(2,⟨(a.l++b.l).map Sn.D,2,false⟩)] 3=some (.tup [.lsl 3 0 va4p3_0.length 2 none,I 0],[(2,⟨(zq zp (a.l++b.l)).map Sn.D,2,false⟩),(3,⟨va4p3_0.map Sn.D,2,false⟩)],4) from zy [.inlS [2] (.tup []) [(2,⟨(zq zp (a.l++b.l)).map Sn.D,2,false⟩)] 3,.gloop (sd268 a b) (.exit 0) (sd269 a b va4p3_0),.dec false] (Ai h34 (Ai (yi (q:=lr_ranges_gathered_4p3 a b (zq zp (a.l++b.l))) (lp_ranges_gathered_4p3 a b (zq zp (a.l++b.l)) (zq zp (a.l++b.l)) 0 (List.drop_zero) (Nat.zero_le _) (by simp only [zG,GS.some_l,List.length_set,List.length_append,List.length_cons,List.length_nil] at * <;> first | with_reducible assumption | omega) (by simp only [zG,GS.some_l,List.length_set,List.length_append,List.length_cons,List.length_nil] at * <;> first | with_reducible assumption | omega)) h33) (Ai (gc_of (C:=cfg) (f:=69) (a:=lp69_4) (ks:=[4,10,11,12]) (st:=(sd267 a b)) (st1:=(sd268 a b)) (by kernel_rfl) (by (simp only [sd267,sd268,go_sem,List.length_set,Nat.reduceAdd,Nat.reduceEqDiff,Nat.reduceLT,Nat.reduceLeDiff,bI2,zf.idsL,zf.renL,zf.snapAll,z7.idsL,z7.renL,z7.snapAll]) <;> rfl)) (Ai (Ai (show zk [(2,⟨(a.l++b.l).map Sn.D,2,false⟩)] 256 [2] []=some [2] from (by (simp only [zk,go_sem,List.length_set,Nat.reduceAdd,Nat.reduceEqDiff,Nat.reduceLT,Nat.reduceLeDiff,bI2,zf.idsL,zf.renL,zf.snapAll,z7.idsL,z7.renL,z7.snapAll]) <;> rfl)) (T_sort 2 3 none (a.l++b.l) (by simp only [List.length_append,List.length_cons,List.length_nil] at * <;> omega))) trivial)))) (by kernel_rfl))) (Ai p4 (Ai h1 (Ai p1 trivial))))) (by kernel_rfl)
     | x1 i4p3 x4p3 va4p3_0 =>
      try dsimp only
      have hv_h33:=ivt_ranges_gathered_4p3 a b (zq zp (a.l++b.l)) (zq zp (a.l++b.l)) 0 (List.drop_zero) (Nat.zero_le _) (by simp only [zG,GS.some_l,List.length_set,List.length_append,List.length_cons,List.length_nil] at * <;> first | with_reducible assumption | omega) (by simp only [zG,GS.some_l,List.length_set,List.length_append,List.length_cons,List.length_nil] at * <;> first | with_reducible assumption | omega)
      rw [h33] at hv_h33
      obtain ⟨hv_h33_0,hv_h33_1⟩:=hv_h33
      try dsimp only [iv_ranges_gathered_4p3] at hv_h33_0
      try dsimp only [iv_ranges_gathered_4p3] at hv_h33_1
      exact zt ((ranges_Union_o3 a b)++[.inlS [2] (.tup [.sl true [] 0 none,I 2]) [(2,⟨(zq zp (a.l++b.l)).map Sn.D,2,false⟩),(3,⟨va4p3_0.map Sn.D,2,false⟩),(4,⟨[.agg [I x4p3.lo,I x4p3.hi]],2,false⟩)] 5]) (Ai (Ai (show zk [(0,⟨[.sl a.nl (a.l.map Sn.D) (zsl a.nl 2) none,.sl b.nl (b.l.map Sn.D) (zsl b.nl 2) none],1,false⟩),(1,⟨[.sl a.nl (a.l.map Sn.D) (zsl a.nl 2) none,.sl b.nl (b.l.map Sn.D) (zsl b.nl 2) none],1,false⟩),(2,⟨(a.l++b.l).map Sn.D,2,false⟩)] 256 [2] []=some [2] from (by (simp only [zk,go_sem,List.length_set,Nat.reduceAdd,Nat.reduceEqDiff,Nat.reduceLT,Nat.reduceLeDiff,bI2,zf.idsL,zf.renL,zf.snapAll,z7.idsL,z7.renL,z7.snapAll]) <;> rfl)) (show (lim cfg).inl 69 [.lsl 2 0 ((a.l++b.l).length) 2 none] [(2,⟨(a.l++b.l).map Sn.D,2,false⟩)] 3=some (.tup [.sl true [] 0 none,I 2],[(2,⟨(zq zp (a.l++b.l)).map Sn.D,2,false⟩),(3,⟨va4p3_0.map Sn.D,2,false⟩),(4,⟨[.agg [I x4p3.lo,I x4p3.hi]],2,false⟩)],5) from zy [.inlS [2] (.tup []) [(2,⟨(zq zp (a.l++b.l)).map Sn.D,2,false⟩)] 3,.gloop (sd268 a b) .ret (sd270 a b i4p3 x4p3 va4p3_0)] (Ai (yi (q:=lr_ranges_gathered_4p3 a b (zq zp (a.l++b.l))) (lp_ranges_gathered_4p3 a b (zq zp (a.l++b.l)) (zq zp (a.l++b.l)) 0 (List.drop_zero) (Nat.zero_le _) (by simp only [zG,GS.some_l,List.length_set,List.length_append,List.length_cons,List.length_nil] at * <;> first | with_reducible assumption | omega) (by simp only [zG,GS.some_l,List.length_set,List.length_append,List.length_cons,List.length_nil] at * <;> first | with_reducible assumption | omega)) h33) (Ai (gc_of (C:=cfg) (f:=69) (a:=lp69_4) (ks:=[4,10,11,12]) (st:=(sd267 a b)) (st1:=(sd268 a b)) (by kernel_rfl) (by (simp only [sd267,sd268,go_sem,List.length_set,Nat.reduceAdd,Nat.reduceEqDiff,Nat.reduceLT,Nat.reduceLeDiff,bI2,zf.idsL,zf.renL,zf.snapAll,z7.idsL,z7.renL,z7.snapAll]) <;> rfl)) (Ai (Ai (show zk [(2,⟨(a.l++b.l).map Sn.D,2,false⟩)] 256 [2] []=some [2] from (by (simp only [zk,go_sem,List.length_set,Nat.reduceAdd,Nat.reduceEqDiff,Nat.reduceLT,Nat.reduceLeDiff,bI2,zf.idsL,zf.renL,zf.snapAll,z7.idsL,z7.renL,z7.snapAll]) <;> rfl)) (T_sort 2 3 none (a.l++b.l) (by simp only [List.length_append,List.length_cons,List.length_nil] at * <;> omega))) trivial))) (by kernel_rfl))) (Ai p4 (Ai h1 (Ai p1 trivial)))) (by kernel_rfl)
     | x2 i4p3 x4p3 va4p3_0 =>
      try dsimp only
      have hv_h33:=ivt_ranges_gathered_4p3 a b (zq zp (a.l++b.l)) (zq zp (a.l++b.l)) 0 (List.drop_zero) (Nat.zero_le _) (by simp only [zG,GS.some_l,List.length_set,List.length_append,List.length_cons,List.length_nil] at * <;> first | with_reducible assumption | omega) (by simp only [zG,GS.some_l,List.length_set,List.length_append,List.length_cons,List.length_nil] at * <;> first | with_reducible assumption | omega)
      rw [h33] at hv_h33
      obtain ⟨hv_h33_0,hv_h33_1⟩:=hv_h33
      try dsimp only [iv_ranges_gathered_4p3] at hv_h33_0
      try dsimp only [iv_ranges_gathered_4p3] at hv_h33_1
      exact zt ((ranges_Union_o3 a b)++[.inlS [2] (.tup [.sl true [] 0 none,I 2]) [(2,⟨(zq zp (a.l++b.l)).map Sn.D,2,false⟩),(3,⟨va4p3_0.map Sn.D,2,false⟩),(4,⟨[.agg [I x4p3.lo,I x4p3.hi]],2,false⟩)] 5]) (Ai (Ai (show zk [(0,⟨[.sl a.nl (a.l.map Sn.D) (zsl a.nl 2) none,.sl b.nl (b.l.map Sn.D) (zsl b.nl 2) none],1,false⟩),(1,⟨[.sl a.nl (a.l.map Sn.D) (zsl a.nl 2) none,.sl b.nl (b.l.map Sn.D) (zsl b.nl 2) none],1,false⟩),(2,⟨(a.l++b.l).map Sn.D,2,false⟩)] 256 [2] []=some [2] from (by (simp only [zk,go_sem,List.length_set,Nat.reduceAdd,Nat.reduceEqDiff,Nat.reduceLT,Nat.reduceLeDiff,bI2,zf.idsL,zf.renL,zf.snapAll,z7.idsL,z7.renL,z7.snapAll]) <;> rfl)) (show (lim cfg).inl 69 [.lsl 2 0 ((a.l++b.l).length) 2 none] [(2,⟨(a.l++b.l).map Sn.D,2,false⟩)] 3=some (.tup [.sl true [] 0 none,I 2],[(2,⟨(zq zp (a.l++b.l)).map Sn.D,2,false⟩),(3,⟨va4p3_0.map Sn.D,2,false⟩),(4,⟨[.agg [I x4p3.lo,I x4p3.hi]],2,false⟩)],5) from zy [.inlS [2] (.tup []) [(2,⟨(zq zp (a.l++b.l)).map Sn.D,2,false⟩)] 3,.gloop (sd268 a b) .ret (sd271 a b i4p3 x4p3 va4p3_0)] (Ai (yi (q:=lr_ranges_gathered_4p3 a b (zq zp (a.l++b.l))) (lp_ranges_gathered_4p3 a b (zq zp (a.l++b.l)) (zq zp (a.l++b.l)) 0 (List.drop_zero) (Nat.zero_le _) (by simp only [zG,GS.some_l,List.length_set,List.length_append,List.length_cons,List.length_nil] at * <;> first | with_reducible assumption | omega) (by simp only [zG,GS.some_l,List.length_set,List.length_append,List.length_cons,List.length_nil] at * <;> first | with_reducible assumption | omega)) h33) (Ai (gc_of (C:=cfg) (f:=69) (a:=lp69_4) (ks:=[4,10,11,12]) (st:=(sd267 a b)) (st1:=(sd268 a b)) (by kernel_rfl) (by (simp only [sd267,sd268,go_sem,List.length_set,Nat.reduceAdd,Nat.reduceEqDiff,Nat.reduceLT,Nat.reduceLeDiff,bI2,zf.idsL,zf.renL,zf.snapAll,z7.idsL,z7.renL,z7.snapAll]) <;> rfl)) (Ai (Ai (show zk [(2,⟨(a.l++b.l).map Sn.D,2,false⟩)] 256 [2] []=some [2] from (by (simp only [zk,go_sem,List.length_set,Nat.reduceAdd,Nat.reduceEqDiff,Nat.reduceLT,Nat.reduceLeDiff,bI2,zf.idsL,zf.renL,zf.snapAll,z7.idsL,z7.renL,z7.snapAll]) <;> rfl)) (T_sort 2 3 none (a.l++b.l) (by simp only [List.length_append,List.length_cons,List.length_nil] at * <;> omega))) trivial))) (by kernel_rfl))) (Ai p4 (Ai h1 (Ai p1 trivial)))) (by kernel_rfl)
     | x3 =>
      try dsimp only
      exact zt ((ranges_Union_o3 a b)++[.inlS [2] (.tup [.sl true [] 0 none,I 0]) [(2,⟨(zq zp (a.l++b.l)).map Sn.D,2,false⟩)] 3]) (Ai (Ai (show zk [(0,⟨[.sl a.nl (a.l.map Sn.D) (zsl a.nl 2) none,.sl b.nl (b.l.map Sn.D) (zsl b.nl 2) none],1,false⟩),(1,⟨[.sl a.nl (a.l.map Sn.D) (zsl a.nl 2) none,.sl b.nl (b.l.map Sn.D) (zsl b.nl 2) none],1,false⟩),(2,⟨(a.l++b.l).map Sn.D,2,false⟩)] 256 [2] []=some [2] from (by (simp only [zk,go_sem,List.length_set,Nat.reduceAdd,Nat.reduceEqDiff,Nat.reduceLT,Nat.reduceLeDiff,bI2,zf.idsL,zf.renL,zf.snapAll,z7.idsL,z7.renL,z7.snapAll]) <;> rfl)) (show (lim cfg).inl 69 [.lsl 2 0 ((a.l++b.l).length) 2 none] [(2,⟨(a.l++b.l).map Sn.D,2,false⟩)] 3=some (.tup [.sl true [] 0 none,I 0],[(2,⟨(zq zp (a.l++b.l)).map Sn.D,2,false⟩)],3) from zy [.inlS [2] (.tup []) [(2,⟨(zq zp (a.l++b.l)).map Sn.D,2,false⟩)] 3,.gloop (sd268 a b) (.exit 0) (sd272 a b),.dec false] (Ai (Eq.refl false) (Ai (yi (q:=lr_ranges_gathered_4p3 a b (zq zp (a.l++b.l))) (lp_ranges_gathered_4p3 a b (zq zp (a.l++b.l)) (zq zp (a.l++b.l)) 0 (List.drop_zero) (Nat.zero_le _) (by simp only [zG,GS.some_l,List.length_set,List.length_append,List.length_cons,List.length_nil] at * <;> first | with_reducible assumption | omega) (by simp only [zG,GS.some_l,List.length_set,List.length_append,List.length_cons,List.length_nil] at * <;> first | with_reducible assumption | omega)) h33) (Ai (gc_of (C:=cfg) (f:=69) (a:=lp69_4) (ks:=[4,10,11,12]) (st:=(sd267 a b)) (st1:=(sd268 a b)) (by kernel_rfl) (by (simp only [sd267,sd268,go_sem,List.length_set,Nat.reduceAdd,Nat.reduceEqDiff,Nat.reduceLT,Nat.reduceLeDiff,bI2,zf.idsL,zf.renL,zf.snapAll,z7.idsL,z7.renL,z7.snapAll]) <;> rfl)) (Ai (Ai (show zk [(2,⟨(a.l++b.l).map Sn.D,2,false⟩)] 256 [2] []=some [2] from (by (simp only [zk,go_sem,List.length_set,Nat.reduceAdd,Nat.reduceEqDiff,Nat.reduceLT,Nat.reduceLeDiff,bI2,zf.idsL,zf.renL,zf.snapAll,z7.idsL,z7.renL,z7.snapAll]) <;> rfl)) (T_sort 2 3 none (a.l++b.l) (by simp only [List.length_append,List.length_cons,List.length_nil] at * <;> omega))) trivial)))) (by kernel_rfl))) (Ai p4 (Ai h1 (Ai p1 trivial)))) (by kernel_rfl)
     | x4 i4p3 x4p3 =>
      try dsimp only
      exact zt ((ranges_Union_o3 a b)++[.inlS [2] (.tup [.sl true [] 0 none,I 2]) [(2,⟨(zq zp (a.l++b.l)).map Sn.D,2,false⟩),(3,⟨[.agg [I x4p3.lo,I x4p3.hi]],2,false⟩)] 4]) (Ai (Ai (show zk [(0,⟨[.sl a.nl (a.l.map Sn.D) (zsl a.nl 2) none,.sl b.nl (b.l.map Sn.D) (zsl b.nl 2) none],1,false⟩),(1,⟨[.sl a.nl (a.l.map Sn.D) (zsl a.nl 2) none,.sl b.nl (b.l.map Sn.D) (zsl b.nl 2) none],1,false⟩),(2,⟨(a.l++b.l).map Sn.D,2,false⟩)] 256 [2] []=some [2] from (by (simp only [zk,go_sem,List.length_set,Nat.reduceAdd,Nat.reduceEqDiff,Nat.reduceLT,Nat.reduceLeDiff,bI2,zf.idsL,zf.renL,zf.snapAll,z7.idsL,z7.renL,z7.snapAll]) <;> rfl)) (show (lim cfg).inl 69 [.lsl 2 0 ((a.l++b.l).length) 2 none] [(2,⟨(a.l++b.l).map Sn.D,2,false⟩)] 3=some (.tup [.sl true [] 0 none,I 2],[(2,⟨(zq zp (a.l++b.l)).map Sn.D,2,false⟩),(3,⟨[.agg [I x4p3.lo,I x4p3.hi]],2,false⟩)],4) from zy [.inlS [2] (.tup []) [(2,⟨(zq zp (a.l++b.l)).map Sn.D,2,false⟩)] 3,.gloop (sd268 a b) .ret (sd273 a b i4p3 x4p3)] (Ai (yi (q:=lr_ranges_gathered_4p3 a b (zq zp (a.l++b.l))) (lp_ranges_gathered_4p3 a b (zq zp (a.l++b.l)) (zq zp (a.l++b.l)) 0 (List.drop_zero) (Nat.zero_le _) (by simp only [zG,GS.some_l,List.length_set,List.length_append,List.length_cons,List.length_nil] at * <;> first | with_reducible assumption | omega) (by simp only [zG,GS.some_l,List.length_set,List.length_append,List.length_cons,List.length_nil] at * <;> first | with_reducible assumption | omega)) h33) (Ai (gc_of (C:=cfg) (f:=69) (a:=lp69_4) (ks:=[4,10,11,12]) (st:=(sd267 a b)) (st1:=(sd268 a b)) (by kernel_rfl) (by (simp only [sd267,sd268,go_sem,List.length_set,Nat.reduceAdd,Nat.reduceEqDiff,Nat.reduceLT,Nat.reduceLeDiff,bI2,zf.idsL,zf.renL,zf.snapAll,z7.idsL,z7.renL,z7.snapAll]) <;> rfl)) (Ai (Ai (show zk [(2,⟨(a.l++b.l).map Sn.D,2,false⟩)] 256 [2] []=some [2] from (by (simp only [zk,go_sem,List.length_set,Nat.reduceAdd,Nat.reduceEqDiff,Nat.reduceLT,Nat.reduceLeDiff,bI2,zf.idsL,zf.renL,zf.snapAll,z7.idsL,z7.renL,z7.snapAll]) <;> rfl)) (T_sort 2 3 none (a.l++b.l) (by simp only [List.length_append,List.length_cons,List.length_nil] at * <;> omega))) trivial))) (by kernel_rfl))) (Ai p4 (Ai h1 (Ai p1 trivial)))) (by kernel_rfl)
     | x5 i4p3 x4p3 =>
      try dsimp only
      exact zt ((ranges_Union_o3 a b)++[.inlS [2] (.tup [.sl true [] 0 none,I 2]) [(2,⟨(zq zp (a.l++b.l)).map Sn.D,2,false⟩),(3,⟨[.agg [I x4p3.lo,I x4p3.hi]],2,false⟩)] 4]) (Ai (Ai (show zk [(0,⟨[.sl a.nl (a.l.map Sn.D) (zsl a.nl 2) none,.sl b.nl (b.l.map Sn.D) (zsl b.nl 2) none],1,false⟩),(1,⟨[.sl a.nl (a.l.map Sn.D) (zsl a.nl 2) none,.sl b.nl (b.l.map Sn.D) (zsl b.nl 2) none],1,false⟩),(2,⟨(a.l++b.l).map Sn.D,2,false⟩)] 256 [2] []=some [2] from (by (simp only [zk,go_sem,List.length_set,Nat.reduceAdd,Nat.reduceEqDiff,Nat.reduceLT,Nat.reduceLeDiff,bI2,zf.idsL,zf.renL,zf.snapAll,z7.idsL,z7.renL,z7.snapAll]) <;> rfl)) (show (lim cfg).inl 69 [.lsl 2 0 ((a.l++b.l).length) 2 none] [(2,⟨(a.l++b.l).map Sn.D,2,false⟩)] 3=some (.tup [.sl true [] 0 none,I 2],[(2,⟨(zq zp (a.l++b.l)).map Sn.D,2,false⟩),(3,⟨[.agg [I x4p3.lo,I x4p3.hi]],2,false⟩)],4) from zy [.inlS [2] (.tup []) [(2,⟨(zq zp (a.l++b.l)).map Sn.D,2,false⟩)] 3,.gloop (sd268 a b) .ret (sd274 a b i4p3 x4p3)] (Ai (yi (q:=lr_ranges_gathered_4p3 a b (zq zp (a.l++b.l))) (lp_ranges_gathered_4p3 a b (zq zp (a.l++b.l)) (zq zp (a.l++b.l)) 0 (List.drop_zero) (Nat.zero_le _) (by simp only [zG,GS.some_l,List.length_set,List.length_append,List.length_cons,List.length_nil] at * <;> first | with_reducible assumption | omega) (by simp only [zG,GS.some_l,List.length_set,List.length_append,List.length_cons,List.length_nil] at * <;> first | with_reducible assumption | omega)) h33) (Ai (gc_of (C:=cfg) (f:=69) (a:=lp69_4) (ks:=[4,10,11,12]) (st:=(sd267 a b)) (st1:=(sd268 a b)) (by kernel_rfl) (by (simp only [sd267,sd268,go_sem,List.length_set,Nat.reduceAdd,Nat.reduceEqDiff,Nat.reduceLT,Nat.reduceLeDiff,bI2,zf.idsL,zf.renL,zf.snapAll,z7.idsL,z7.renL,z7.snapAll]) <;> rfl)) (Ai (Ai (show zk [(2,⟨(a.l++b.l).map Sn.D,2,false⟩)] 256 [2] []=some [2] from (by (simp only [zk,go_sem,List.length_set,Nat.reduceAdd,Nat.reduceEqDiff,Nat.reduceLT,Nat.reduceLeDiff,bI2,zf.idsL,zf.renL,zf.snapAll,z7.idsL,z7.renL,z7.snapAll]) <;> rfl)) (T_sort 2 3 none (a.l++b.l) (by simp only [List.length_append,List.length_cons,List.length_nil] at * <;> omega))) trivial))) (by kernel_rfl))) (Ai p4 (Ai h1 (Ai p1 trivial)))) (by kernel_rfl)
  | false =>
   have g2:=of_decide_eq_false h2
   have l17:=(app_none (te:=yw) (gO:=zF [(1,⟨[.sl a.nl (a.l.map Sn.D) (zsl a.nl 2) none,.sl b.nl (b.l.map Sn.D) (zsl b.nl 2) none],1,false⟩)]) (nxt:=2) (f:=Sn.D) (sz:=2) (d:=.sl true [] 0 none) a (show a.l.isEmpty=true from (emp1 h2)) rfl)
   have l18:=(show ∀ q,(lim cfg).loop 96 lp96_11 (sd276 a b)=some q→(lim cfg).loop 96 lp96_11 (sd275 a b)=some q from fun q hq=>po_turn (st1:=(sd276 a b)) [.dec true,.op (some 33) ⟨.sl true [] 0 none,[],[],2⟩,.rw 34 (I 1)] (Ai (zadd_rw (x:=1) (by omega)) (Ai (l17) (Ai (Eq.refl true) trivial))) hq (by kernel_rfl))
   have l19:=(app_none (te:=yw) (gO:=zF [(1,⟨[.sl a.nl (a.l.map Sn.D) (zsl a.nl 2) none,.sl b.nl (b.l.map Sn.D) (zsl b.nl 2) none],1,false⟩)]) (nxt:=2) (f:=Sn.D) (sz:=2) (d:=.sl true [] 0 none) b (show b.l.isEmpty=true from (emp2 h2)) rfl)
   have l20:=(show ∀ q,(lim cfg).loop 96 lp96_11 (sd277 a b)=some q→(lim cfg).loop 96 lp96_11 (sd276 a b)=some q from fun q hq=>po_turn (st1:=(sd277 a b)) [.dec true,.op (some 33) ⟨.sl true [] 0 none,[],[],2⟩] (Ai (l19) (Ai (Eq.refl true) trivial)) hq (by kernel_rfl))
   exact zt [.pure (I (y7 (GS.some [a,b]))),.dec false,.inl (.sl true [] 0 none) [(1,⟨[.sl a.nl (a.l.map Sn.D) (zsl a.nl 2) none,.sl b.nl (b.l.map Sn.D) (zsl b.nl 2) none],1,false⟩)] 2,.inl (.tup [.sl true [] 0 none,I 0]) [] 2] (Ai (show (lim cfg).inl 69 [.sl true [] 0 none] [] 2=some (.tup [.sl true [] 0 none,I 0],[],2) from zy [.inl (.tup []) [] 2,.loop (.exit 0) ⟨65,[(13,B false),(4,.sl true [] 0 none),(10,.sl true [] 0 none),(11,I 0),(12,I 0)],[],2,2⟩,.dec false] (Ai (Eq.refl false) (Ai (show (lim cfg).loop 69 lp69_4 ⟨65,[(4,.sl true [] 0 none),(10,.sl true [] 0 none),(11,I 0),(12,I 0)],[],2,2⟩=some ((.exit 0),⟨65,[(13,B false),(4,.sl true [] 0 none),(10,.sl true [] 0 none),(11,I 0),(12,I 0)],[],2,2⟩) from (zP [.dec false] (Ai (Eq.refl false) trivial) (by kernel_rfl))) (Ai (T_sort_nil 2) trivial))) (by kernel_rfl)) (Ai (show (lim cfg).inl 96 [.lsl 1 0 2 1 (some 2)] [(1,⟨[.sl a.nl (a.l.map Sn.D) (zsl a.nl 2) none,.sl b.nl (b.l.map Sn.D) (zsl b.nl 2) none],1,false⟩)] 2=some (.sl true [] 0 none,[(1,⟨[.sl a.nl (a.l.map Sn.D) (zsl a.nl 2) none,.sl b.nl (b.l.map Sn.D) (zsl b.nl 2) none],1,false⟩)],2) from zy [.loop (.exit 0) (sd225 a b),.inl (.sl true [] 0 none) [] 2,.loop (.exit 2) (sd278 a b)] (Ai (show (lim cfg).loop 96 lp96_11 (sd275 a b)=some ((.exit 2),(sd278 a b)) from (l18 _ (l20 _ (zP [.dec false] (Ai (Eq.refl false) trivial) (by kernel_rfl))))) (Ai (show (lim cfg).inl 108 [.sl true [] 0 none,I ((a.l.length+b.l.length:Nat):Int)] [] 2=some (.sl true [] 0 none,[],2) from zy [.dec false,.rw 14 (I ((a.l.length+b.l.length:Nat):Int)),.dec false] (Ai h2 (Ai (sub0_rw (x:=a.l.length+b.l.length) (by omega)) (Ai (show decide (((a.l.length+b.l.length:Nat):Int) < 0)=false from (decide_eq_false (by omega))) trivial))) (by kernel_rfl)) (Ai (show (lim cfg).loop 96 lp96_3 (sd222 a b)=some ((.exit 0),(sd225 a b)) from (l2 _ (l4 _ (zP [.dec false] (Ai (Eq.refl false) trivial) (by kernel_rfl))))) trivial))) (by kernel_rfl)) (Ai h1 (Ai p1 trivial)))) (by kernel_rfl)
end Go.VS

namespace Go.VS
open Go
set_option maxHeartbeats 0
set_option linter.unusedSimpArgs false
set_option linter.unusedVariables false

theorem ranges_gathered_4p2_ok:∀ (l:List Sn) (i:Nat) (v:List Sn) (c:Sn),ArL l→Ar c.hi→v.length+l.length≤1099511627776→ye l i (v++[c])=.x0 (v++jn c l)
 | [],i,v,c,_,_,_=>rfl
 | x::l,i,v,c,h,hc,hv=>by
  have hx:=h x List.mem_cons_self
  have h':ArL l:=fun t ht=>h t (List.mem_cons_of_mem _ ht)
  simp only [List.length_cons] at hv
  unfold ye jn
  rw [area_iff.2 hx.1,area_iff.2 hx.2]
  have hl:w64 ((((v++[c]).length:Nat):Int) - 1)=((v.length:Nat):Int):=by
   rcases len_last (v:=v) (c:=c) with e | e
   ·exact e
   ·omega
  have hp:decide ((((v++[c]).length:Nat):Int) > 0)=true:=decide_eq_true (by simp only [List.length_append,List.length_cons,List.length_nil]; omega)
  rw [hl,hp,Int.toNat_natCast,getD_last,set_last]
  unfold Ar at hc
  have hx2:=hx.2
  unfold Ar at hx2
  rw [w64_eq (n:=c.hi+1) (by omega) (by omega),imax_eq]
  by_cases hle:x.lo≤c.hi+1
  ·rw [decide_eq_true hle,if_pos hle]
   exact ranges_gathered_4p2_ok l (i+1) v ⟨c.lo,max c.hi x.hi⟩ h' (by unfold Ar; simp only; omega) (by omega)
  ·rw [decide_eq_false hle,if_neg hle]
   have:=ranges_gathered_4p2_ok l (i+1) (v++[c]) x h' hx.2 (by simp only [List.length_append,List.length_cons,List.length_nil]; omega)
   simp only [cond_true,cond_false]
   rw [this,List.append_assoc]; rfl
def ranges_gathered_4p2_er:LR_ranges_gathered_4p2→Bool
 | .x1 _ _ _=>true
 | .x2 _ _ _=>true
 | .x4 _ _=>true
 | .x5 _ _=>true
 | _=>false
theorem ranges_gathered_4p2_bad:∀ (l:List Sn) (i:Nat) (v:List Sn),¬ ArL l→ranges_gathered_4p2_er (ye l i v)=true
 | [],i,v,h=>absurd (fun s hs=>by cases hs) h
 | x::l,i,v,h=>by
  unfold ye
  cases h1:zn x.lo with
  | false=>rfl
  | true =>
   cases h2:zn x.hi with
   | false=>rfl
   | true =>
    have h':¬ ArL l:=fun k=>h fun s hs=>by
     rcases List.mem_cons.1 hs with rfl | hs
     ·exact ⟨area_iff.1 h1,area_iff.1 h2⟩
     ·exact k s hs
    have ih:=fun v=>ranges_gathered_4p2_bad l (i+1) v h'
    simp only [cond_true]
    cases decide (((v.length:Nat):Int) > 0) with
    | false=>exact ih _
    | true =>
     simp only [cond_true]
     cases decide (x.lo≤w64 ((v.getD ((w64 (((v.length:Nat):Int) - 1)).toNat) default).hi+1)) <;> exact ih _
theorem ranges_gathered_4p2_at {l:List Sn} (hne:l ≠ []) (hl:l.length≤1099511627776):(ArL l∧yc (zq zp l) 0=.x0 (can zp l)) ∨ (¬ ArL l∧ranges_gathered_4p2_er (yc (zq zp l) 0)=true):=by
 have hp:=srtG_perm gcmp_lo l
 have hlen:=srtG_len gcmp_lo l
 have har:ArL (zq zp l)↔ArL l:=⟨fun h s hs=>h s (hp.mem_iff.2 hs),fun h s hs=>h s (hp.mem_iff.1 hs)⟩
 rw [← har]
 unfold can
 have hne':zq zp l ≠ []:=fun h=>hne (by rw [h] at hp; exact List.nil_perm.1 hp)
 generalize zq zp l=q at *
 cases q with
 | nil=>exact absurd rfl hne'
 | cons c q =>
  simp only [List.length_cons] at hlen
  unfold yc jnL
  dsimp only
  by_cases hc:Ar c.lo∧Ar c.hi
  ·rw [area_iff.2 hc.1,area_iff.2 hc.2]
   by_cases hq:ArL q
   ·left
    refine ⟨fun s hs=>?_,?_⟩
    ·rcases List.mem_cons.1 hs with rfl | hs
     ·exact hc
     ·exact hq s hs
    ·exact ranges_gathered_4p2_ok q 1 [] c hq hc.2 (by simp; omega)
   ·right
    exact ⟨fun h=>hq fun s hs=>h s (List.mem_cons_of_mem _ hs),ranges_gathered_4p2_bad q 1 [c] hq⟩
  ·right
   refine ⟨fun h=>hc (h c List.mem_cons_self),?_⟩
   cases h1:zn c.lo with
   | false=>rfl
   | true =>
    cases h2:zn c.hi with
    | false=>rfl
    | true=>exact absurd ⟨area_iff.1 h1,area_iff.1 h2⟩ hc

theorem ranges_gathered_4p3_ok:∀ (l:List Sn) (i:Nat) (v:List Sn) (c:Sn),ArL l→Ar c.hi→v.length+l.length≤1099511627776→yf l i (v++[c])=.x0 (v++jn c l)
 | [],i,v,c,_,_,_=>rfl
 | x::l,i,v,c,h,hc,hv=>by
  have hx:=h x List.mem_cons_self
  have h':ArL l:=fun t ht=>h t (List.mem_cons_of_mem _ ht)
  simp only [List.length_cons] at hv
  unfold yf jn
  rw [area_iff.2 hx.1,area_iff.2 hx.2]
  have hl:w64 ((((v++[c]).length:Nat):Int) - 1)=((v.length:Nat):Int):=by
   rcases len_last (v:=v) (c:=c) with e | e
   ·exact e
   ·omega
  have hp:decide ((((v++[c]).length:Nat):Int) > 0)=true:=decide_eq_true (by simp only [List.length_append,List.length_cons,List.length_nil]; omega)
  rw [hl,hp,Int.toNat_natCast,getD_last,set_last]
  unfold Ar at hc
  have hx2:=hx.2
  unfold Ar at hx2
  rw [w64_eq (n:=c.hi+1) (by omega) (by omega),imax_eq]
  by_cases hle:x.lo≤c.hi+1
  ·rw [decide_eq_true hle,if_pos hle]
   exact ranges_gathered_4p3_ok l (i+1) v ⟨c.lo,max c.hi x.hi⟩ h' (by unfold Ar; simp only; omega) (by omega)
  ·rw [decide_eq_false hle,if_neg hle]
   have:=ranges_gathered_4p3_ok l (i+1) (v++[c]) x h' hx.2 (by simp only [List.length_append,List.length_cons,List.length_nil]; omega)
   simp only [cond_true,cond_false]
   rw [this,List.append_assoc]; rfl
def ranges_gathered_4p3_er:LR_ranges_gathered_4p3→Bool
 | .x1 _ _ _=>true
 | .x2 _ _ _=>true
 | .x4 _ _=>true
 | .x5 _ _=>true
 | _=>false
theorem ranges_gathered_4p3_bad:∀ (l:List Sn) (i:Nat) (v:List Sn),¬ ArL l→ranges_gathered_4p3_er (yf l i v)=true
 | [],i,v,h=>absurd (fun s hs=>by cases hs) h
 | x::l,i,v,h=>by
  unfold yf
  cases h1:zn x.lo with
  | false=>rfl
  | true =>
   cases h2:zn x.hi with
   | false=>rfl
   | true =>
    have h':¬ ArL l:=fun k=>h fun s hs=>by
     rcases List.mem_cons.1 hs with rfl | hs
     ·exact ⟨area_iff.1 h1,area_iff.1 h2⟩
     ·exact k s hs
    have ih:=fun v=>ranges_gathered_4p3_bad l (i+1) v h'
    simp only [cond_true]
    cases decide (((v.length:Nat):Int) > 0) with
    | false=>exact ih _
    | true =>
     simp only [cond_true]
     cases decide (x.lo≤w64 ((v.getD ((w64 (((v.length:Nat):Int) - 1)).toNat) default).hi+1)) <;> exact ih _
theorem ranges_gathered_4p3_at {l:List Sn} (hne:l ≠ []) (hl:l.length≤1099511627776):(ArL l∧yt (zq zp l) 0=.x0 (can zp l)) ∨ (¬ ArL l∧ranges_gathered_4p3_er (yt (zq zp l) 0)=true):=by
 have hp:=srtG_perm gcmp_lo l
 have hlen:=srtG_len gcmp_lo l
 have har:ArL (zq zp l)↔ArL l:=⟨fun h s hs=>h s (hp.mem_iff.2 hs),fun h s hs=>h s (hp.mem_iff.1 hs)⟩
 rw [← har]
 unfold can
 have hne':zq zp l ≠ []:=fun h=>hne (by rw [h] at hp; exact List.nil_perm.1 hp)
 generalize zq zp l=q at *
 cases q with
 | nil=>exact absurd rfl hne'
 | cons c q =>
  simp only [List.length_cons] at hlen
  unfold yt jnL
  dsimp only
  by_cases hc:Ar c.lo∧Ar c.hi
  ·rw [area_iff.2 hc.1,area_iff.2 hc.2]
   by_cases hq:ArL q
   ·left
    refine ⟨fun s hs=>?_,?_⟩
    ·rcases List.mem_cons.1 hs with rfl | hs
     ·exact hc
     ·exact hq s hs
    ·exact ranges_gathered_4p3_ok q 1 [] c hq hc.2 (by simp; omega)
   ·right
    exact ⟨fun h=>hq fun s hs=>h s (List.mem_cons_of_mem _ hs),ranges_gathered_4p3_bad q 1 [c] hq⟩
  ·right
   refine ⟨fun h=>hc (h c List.mem_cons_self),?_⟩
   cases h1:zn c.lo with
   | false=>rfl
   | true =>
    cases h2:zn c.hi with
    | false=>rfl
    | true=>exact absurd ⟨area_iff.1 h1,area_iff.1 h2⟩ hc

end Go.VS

