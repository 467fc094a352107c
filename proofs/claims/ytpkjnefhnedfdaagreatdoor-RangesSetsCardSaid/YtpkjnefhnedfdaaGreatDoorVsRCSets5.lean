/- Nothing of a statement is proved in this text alone: it is part 5 of the proof's own tools, an evaluator of the code over deep values, its soundness, and what it makes of this seat's functions. Conditions: none beyond the statement's own. -/
import Derived.Test.YtpkjnefhnedfdaaGreatDoorVsRCSets4
set_option linter.unusedSimpArgs false
set_option linter.unusedVariables false
set_option maxHeartbeats 0
namespace Go.VS
open List (length_set length_append length_cons length_nil length_drop length_take)
open Go Go.Proofs
def cutG {α:Type} (s:GS α) (lo hi:Nat):GS α:=GS.some ((s.l.take hi).drop lo)
theorem zj {α:Type} (s:GS α) (lo hi:Nat):(cutG s lo hi).l.length=min hi s.l.length - lo:=by
 unfold cutG;rw [GS.some_l,length_drop,length_take]
theorem cut_sub {α:Type} (s:GS α) (lo hi:Nat):∀x∈(cutG s lo hi).l,x∈s.l:=fun x hx=>by
 unfold cutG at hx
 rw [GS.some_l] at hx
 exact List.mem_of_mem_take (List.mem_of_mem_drop hx)
section
variable {α:Type} {C:Cfg} {objs:List (Nat × Ob)} {t e:TypeId} {ty te:Ty} {f:α→VS.D} {sz nxt k:Nat} {s:GS α}
theorem slice_hi (h1:C.ty t=some ty) (h2:ty.kind=.slice e) (h3:C.ty e=some te) (h4:te.size=sz) (hk:k≤s.l.length) (hp:0 < s.l.length):evSlice C objs nxt t (GS.D f sz s) none (some (I (k:Int))) none=some ⟨GS.D f sz (cutG s 0 k),[],[],nxt⟩:=by
 have hn:s.nl=false:=nonnil (fun h=>by rw [h] at hp;simp at hp)
 subst h4
 unfold GS.D
 rw [hn]
 simp [evSlice,optBound,boundD,I,sliceOf,h1,h2,h3,slSlice,zsl,cutG,GS.some,hk,capBehind,rdOf,List.map_take]
theorem slice_lo (h1:C.ty t=some ty) (h2:ty.kind=.slice e) (h3:C.ty e=some te) (h4:te.size=sz) (hk:k≤s.l.length) (hp:0 < s.l.length):evSlice C objs nxt t (GS.D f sz s) (some (I (k:Int))) none none=some ⟨GS.D f sz (cutG s k s.l.length),[],[],nxt⟩:=by
 have hn:s.nl=false:=nonnil (fun h=>by rw [h] at hp;simp at hp)
 subst h4
 unfold GS.D
 rw [hn]
 simp [evSlice,optBound,boundD,I,sliceOf,h1,h2,h3,slSlice,zsl,cutG,GS.some,hk,capBehind,rdOf,List.map_drop]
 rw [List.take_of_length_le (by simp)]
end
theorem half_rw {x:Nat} (h:x≤9223372036854775807):I (w64 ((x:Int).tdiv 2))=I ((x / 2:Nat):Int):=by
 congr 1
 have e:(x:Int).tdiv 2=((x / 2:Nat):Int):=rfl
 rw [e,w64_eq (by omega) (by omega)]

noncomputable def lp75_8:Code:=subC [1,1,1,1,1,1,1,0,0,0] (bodyC Tryz.f75)

def sd20285 (yD:GS Sn) (yF:GS Sn) (yq:List Sn) (yx:Int) (yB:Int):St:=⟨107,[(101,.lref 0 ((w64 ((yq.length:Int) - 1)).toNat) 2 1),(100,.lref 0 ((w64 ((yq.length:Int) - 1)).toNat) 2 0),(99,I (zN ((yq.getD ((w64 ((yq.length:Int) - 1)).toNat) default).hi) ((GS.at yD yx).hi))),(98,I ((GS.at yD yx).hi)),(97,.lref 1 0 2 1),(96,I ((yq.getD ((w64 ((yq.length:Int) - 1)).toNat) default).hi)),(95,.lref 0 ((w64 ((yq.length:Int) - 1)).toNat) 2 1),(94,.lref 0 ((w64 ((yq.length:Int) - 1)).toNat) 2 0),(93,I (w64 ((yq.length:Int) - 1))),(92,I (yq.length:Int)),(91,.lsl 0 0 yq.length 2 none),(90,I (w64 ((yq.length:Int) - 1))),(89,I (yq.length:Int)),(88,.lsl 0 0 yq.length 2 none),(87,B true),(86,B true),(85,I (w64 (((yq.getD ((w64 ((yq.length:Int) - 1)).toNat) default).hi)+1))),(84,I ((yq.getD ((w64 ((yq.length:Int) - 1)).toNat) default).hi)),(83,.lref 0 ((w64 ((yq.length:Int) - 1)).toNat) 2 1),(82,.lref 0 ((w64 ((yq.length:Int) - 1)).toNat) 2 0),(81,I (w64 ((yq.length:Int) - 1))),(80,I (yq.length:Int)),(79,.lsl 0 0 yq.length 2 none),(78,I ((GS.at yD yx).lo)),(77,.lref 1 0 2 0),(76,B true),(75,B true),(74,I (yq.length:Int)),(9,I (yq.length:Int)),(73,I (yq.length:Int)),(72,.lsl 0 0 yq.length 2 none),(6,I (w64 (yx+1))),(65,I (w64 (yx+1))),(64,I yx),(63,.agg [I ((GS.at yD yx).lo),I ((GS.at yD yx).hi)]),(62,.ptr (.agg [I ((GS.at yD yx).lo),I ((GS.at yD yx).hi)])),(61,I yx),(60,.sl yD.nl (yD.l.map Sn.D) (zsl yD.nl 2) none),(59,B true),(58,.tup []),(57,.tup []),(56,.tup []),(55,.tup []),(54,.tup []),(53,.tup []),(52,.tup []),(51,.tup []),(50,.tup []),(49,.tup []),(48,.tup []),(47,.tup []),(46,.tup []),(45,.tup []),(44,.tup []),(43,.tup []),(42,.tup []),(41,B true),(40,B true),(39,I (yF.l.length:Int)),(38,.sl yF.nl (yF.l.map Sn.D) (zsl yF.nl 2) none),(37,I yB),(8,.lref 1 0 2 0),(36,.agg [I 0,I 0]),(35,B true),(34,.tup []),(33,.tup []),(32,.tup []),(31,.tup []),(30,B true),(29,B true),(28,I (yD.l.length:Int)),(27,.sl yD.nl (yD.l.map Sn.D) (zsl yD.nl 2) none),(26,I yx),(3,.sl yD.nl (yD.l.map Sn.D) (zsl yD.nl 2) none),(4,.sl yF.nl (yF.l.map Sn.D) (zsl yF.nl 2) none),(5,.lsl 0 0 yq.length 2 none),(6,I yx),(7,I yB)],[(0,⟨(yq.set ((w64 ((yq.length:Int) - 1)).toNat) (⟨(yq.getD ((w64 ((yq.length:Int) - 1)).toNat) default).lo,zN ((yq.getD ((w64 ((yq.length:Int) - 1)).toNat) default).hi) ((GS.at yD yx).hi)⟩:Sn)).map Sn.D,2,false⟩),(1,⟨[.agg [I ((GS.at yD yx).lo),I ((GS.at yD yx).hi)]],2,false⟩)],2,0⟩

def sd20286 (yD:GS Sn) (yF:GS Sn) (yq:List Sn) (yx:Int) (yB:Int):St:=⟨107,[(5,.lsl 3 0 ((yq++[(GS.at yD yx)]).length) 2 none),(105,.lsl 3 0 ((yq++[(GS.at yD yx)]).length) 2 none),(104,.lsl 2 0 1 2 (some 1)),(103,.agg [I ((GS.at yD yx).lo),I ((GS.at yD yx).hi)]),(102,.lsl 0 0 yq.length 2 none),(87,B false),(86,B false),(85,I (w64 (((yq.getD ((w64 ((yq.length:Int) - 1)).toNat) default).hi)+1))),(84,I ((yq.getD ((w64 ((yq.length:Int) - 1)).toNat) default).hi)),(83,.lref 0 ((w64 ((yq.length:Int) - 1)).toNat) 2 1),(82,.lref 0 ((w64 ((yq.length:Int) - 1)).toNat) 2 0),(81,I (w64 ((yq.length:Int) - 1))),(80,I (yq.length:Int)),(79,.lsl 0 0 yq.length 2 none),(78,I ((GS.at yD yx).lo)),(77,.lref 1 0 2 0),(76,B true),(75,B true),(74,I (yq.length:Int)),(9,I (yq.length:Int)),(73,I (yq.length:Int)),(72,.lsl 0 0 yq.length 2 none),(6,I (w64 (yx+1))),(65,I (w64 (yx+1))),(64,I yx),(63,.agg [I ((GS.at yD yx).lo),I ((GS.at yD yx).hi)]),(62,.ptr (.agg [I ((GS.at yD yx).lo),I ((GS.at yD yx).hi)])),(61,I yx),(60,.sl yD.nl (yD.l.map Sn.D) (zsl yD.nl 2) none),(59,B true),(58,.tup []),(57,.tup []),(56,.tup []),(55,.tup []),(54,.tup []),(53,.tup []),(52,.tup []),(51,.tup []),(50,.tup []),(49,.tup []),(48,.tup []),(47,.tup []),(46,.tup []),(45,.tup []),(44,.tup []),(43,.tup []),(42,.tup []),(41,B true),(40,B true),(39,I (yF.l.length:Int)),(38,.sl yF.nl (yF.l.map Sn.D) (zsl yF.nl 2) none),(37,I yB),(8,.lref 1 0 2 0),(36,.agg [I 0,I 0]),(35,B true),(34,.tup []),(33,.tup []),(32,.tup []),(31,.tup []),(30,B true),(29,B true),(28,I (yD.l.length:Int)),(27,.sl yD.nl (yD.l.map Sn.D) (zsl yD.nl 2) none),(26,I yx),(3,.sl yD.nl (yD.l.map Sn.D) (zsl yD.nl 2) none),(4,.sl yF.nl (yF.l.map Sn.D) (zsl yF.nl 2) none),(5,.lsl 0 0 yq.length 2 none),(6,I yx),(7,I yB)],[(1,⟨[.agg [I ((GS.at yD yx).lo),I ((GS.at yD yx).hi)]],2,false⟩),(2,⟨[.agg [I ((GS.at yD yx).lo),I ((GS.at yD yx).hi)]],2,false⟩),(3,⟨(yq++[(GS.at yD yx)]).map Sn.D,2,false⟩)],4,0⟩

def sd20287 (yD:GS Sn) (yF:GS Sn) (yq:List Sn) (yx:Int) (yB:Int):St:=⟨107,[(5,.lsl 3 0 ((yq++[(GS.at yD yx)]).length) 2 none),(105,.lsl 3 0 ((yq++[(GS.at yD yx)]).length) 2 none),(104,.lsl 2 0 1 2 (some 1)),(103,.agg [I ((GS.at yD yx).lo),I ((GS.at yD yx).hi)]),(102,.lsl 0 0 yq.length 2 none),(87,B false),(86,.tup []),(85,.tup []),(84,.tup []),(83,.tup []),(82,.tup []),(81,.tup []),(80,.tup []),(79,.tup []),(78,.tup []),(77,.tup []),(76,B false),(75,B false),(74,I (yq.length:Int)),(9,I (yq.length:Int)),(73,I (yq.length:Int)),(72,.lsl 0 0 yq.length 2 none),(6,I (w64 (yx+1))),(65,I (w64 (yx+1))),(64,I yx),(63,.agg [I ((GS.at yD yx).lo),I ((GS.at yD yx).hi)]),(62,.ptr (.agg [I ((GS.at yD yx).lo),I ((GS.at yD yx).hi)])),(61,I yx),(60,.sl yD.nl (yD.l.map Sn.D) (zsl yD.nl 2) none),(59,B true),(58,.tup []),(57,.tup []),(56,.tup []),(55,.tup []),(54,.tup []),(53,.tup []),(52,.tup []),(51,.tup []),(50,.tup []),(49,.tup []),(48,.tup []),(47,.tup []),(46,.tup []),(45,.tup []),(44,.tup []),(43,.tup []),(42,.tup []),(41,B true),(40,B true),(39,I (yF.l.length:Int)),(38,.sl yF.nl (yF.l.map Sn.D) (zsl yF.nl 2) none),(37,I yB),(8,.lref 1 0 2 0),(36,.agg [I 0,I 0]),(35,B true),(34,.tup []),(33,.tup []),(32,.tup []),(31,.tup []),(30,B true),(29,B true),(28,I (yD.l.length:Int)),(27,.sl yD.nl (yD.l.map Sn.D) (zsl yD.nl 2) none),(26,I yx),(3,.sl yD.nl (yD.l.map Sn.D) (zsl yD.nl 2) none),(4,.sl yF.nl (yF.l.map Sn.D) (zsl yF.nl 2) none),(5,.lsl 0 0 yq.length 2 none),(6,I yx),(7,I yB)],[(1,⟨[.agg [I ((GS.at yD yx).lo),I ((GS.at yD yx).hi)]],2,false⟩),(2,⟨[.agg [I ((GS.at yD yx).lo),I ((GS.at yD yx).hi)]],2,false⟩),(3,⟨(yq++[(GS.at yD yx)]).map Sn.D,2,false⟩)],4,0⟩

def sd20288 (yD:GS Sn) (yF:GS Sn) (yq:List Sn) (yx:Int) (yB:Int):St:=⟨107,[(101,.lref 0 ((w64 ((yq.length:Int) - 1)).toNat) 2 1),(100,.lref 0 ((w64 ((yq.length:Int) - 1)).toNat) 2 0),(99,I (zN ((yq.getD ((w64 ((yq.length:Int) - 1)).toNat) default).hi) ((GS.at yD yx).hi))),(98,I ((GS.at yD yx).hi)),(97,.lref 1 0 2 1),(96,I ((yq.getD ((w64 ((yq.length:Int) - 1)).toNat) default).hi)),(95,.lref 0 ((w64 ((yq.length:Int) - 1)).toNat) 2 1),(94,.lref 0 ((w64 ((yq.length:Int) - 1)).toNat) 2 0),(93,I (w64 ((yq.length:Int) - 1))),(92,I (yq.length:Int)),(91,.lsl 0 0 yq.length 2 none),(90,I (w64 ((yq.length:Int) - 1))),(89,I (yq.length:Int)),(88,.lsl 0 0 yq.length 2 none),(87,B true),(86,B true),(85,I (w64 (((yq.getD ((w64 ((yq.length:Int) - 1)).toNat) default).hi)+1))),(84,I ((yq.getD ((w64 ((yq.length:Int) - 1)).toNat) default).hi)),(83,.lref 0 ((w64 ((yq.length:Int) - 1)).toNat) 2 1),(82,.lref 0 ((w64 ((yq.length:Int) - 1)).toNat) 2 0),(81,I (w64 ((yq.length:Int) - 1))),(80,I (yq.length:Int)),(79,.lsl 0 0 yq.length 2 none),(78,I ((GS.at yD yx).lo)),(77,.lref 1 0 2 0),(76,B true),(75,B true),(74,I (yq.length:Int)),(9,I (yq.length:Int)),(73,I (yq.length:Int)),(72,.lsl 0 0 yq.length 2 none),(6,I (w64 (yx+1))),(65,I (w64 (yx+1))),(64,I yx),(63,.agg [I ((GS.at yD yx).lo),I ((GS.at yD yx).hi)]),(62,.ptr (.agg [I ((GS.at yD yx).lo),I ((GS.at yD yx).hi)])),(61,I yx),(60,.sl yD.nl (yD.l.map Sn.D) (zsl yD.nl 2) none),(59,B true),(58,B true),(57,B true),(56,I ((GS.at yF yB).lo)),(55,.ptr (I ((GS.at yF yB).lo))),(54,.ptr (.agg [I ((GS.at yF yB).lo),I ((GS.at yF yB).hi)])),(53,I yB),(52,.sl yF.nl (yF.l.map Sn.D) (zsl yF.nl 2) none),(51,I ((GS.at yD yx).lo)),(50,.ptr (I ((GS.at yD yx).lo))),(49,.ptr (.agg [I ((GS.at yD yx).lo),I ((GS.at yD yx).hi)])),(48,I yx),(47,.sl yD.nl (yD.l.map Sn.D) (zsl yD.nl 2) none),(46,B true),(45,B true),(44,I (yD.l.length:Int)),(43,.sl yD.nl (yD.l.map Sn.D) (zsl yD.nl 2) none),(42,I yx),(41,B false),(40,B false),(39,I (yF.l.length:Int)),(38,.sl yF.nl (yF.l.map Sn.D) (zsl yF.nl 2) none),(37,I yB),(8,.lref 1 0 2 0),(36,.agg [I 0,I 0]),(35,B true),(34,.tup []),(33,.tup []),(32,.tup []),(31,.tup []),(30,B true),(29,B true),(28,I (yD.l.length:Int)),(27,.sl yD.nl (yD.l.map Sn.D) (zsl yD.nl 2) none),(26,I yx),(3,.sl yD.nl (yD.l.map Sn.D) (zsl yD.nl 2) none),(4,.sl yF.nl (yF.l.map Sn.D) (zsl yF.nl 2) none),(5,.lsl 0 0 yq.length 2 none),(6,I yx),(7,I yB)],[(0,⟨(yq.set ((w64 ((yq.length:Int) - 1)).toNat) (⟨(yq.getD ((w64 ((yq.length:Int) - 1)).toNat) default).lo,zN ((yq.getD ((w64 ((yq.length:Int) - 1)).toNat) default).hi) ((GS.at yD yx).hi)⟩:Sn)).map Sn.D,2,false⟩),(1,⟨[.agg [I ((GS.at yD yx).lo),I ((GS.at yD yx).hi)]],2,false⟩)],2,0⟩

def sd20289 (yD:GS Sn) (yF:GS Sn) (yq:List Sn) (yx:Int) (yB:Int):St:=⟨107,[(5,.lsl 3 0 ((yq++[(GS.at yD yx)]).length) 2 none),(105,.lsl 3 0 ((yq++[(GS.at yD yx)]).length) 2 none),(104,.lsl 2 0 1 2 (some 1)),(103,.agg [I ((GS.at yD yx).lo),I ((GS.at yD yx).hi)]),(102,.lsl 0 0 yq.length 2 none),(87,B false),(86,B false),(85,I (w64 (((yq.getD ((w64 ((yq.length:Int) - 1)).toNat) default).hi)+1))),(84,I ((yq.getD ((w64 ((yq.length:Int) - 1)).toNat) default).hi)),(83,.lref 0 ((w64 ((yq.length:Int) - 1)).toNat) 2 1),(82,.lref 0 ((w64 ((yq.length:Int) - 1)).toNat) 2 0),(81,I (w64 ((yq.length:Int) - 1))),(80,I (yq.length:Int)),(79,.lsl 0 0 yq.length 2 none),(78,I ((GS.at yD yx).lo)),(77,.lref 1 0 2 0),(76,B true),(75,B true),(74,I (yq.length:Int)),(9,I (yq.length:Int)),(73,I (yq.length:Int)),(72,.lsl 0 0 yq.length 2 none),(6,I (w64 (yx+1))),(65,I (w64 (yx+1))),(64,I yx),(63,.agg [I ((GS.at yD yx).lo),I ((GS.at yD yx).hi)]),(62,.ptr (.agg [I ((GS.at yD yx).lo),I ((GS.at yD yx).hi)])),(61,I yx),(60,.sl yD.nl (yD.l.map Sn.D) (zsl yD.nl 2) none),(59,B true),(58,B true),(57,B true),(56,I ((GS.at yF yB).lo)),(55,.ptr (I ((GS.at yF yB).lo))),(54,.ptr (.agg [I ((GS.at yF yB).lo),I ((GS.at yF yB).hi)])),(53,I yB),(52,.sl yF.nl (yF.l.map Sn.D) (zsl yF.nl 2) none),(51,I ((GS.at yD yx).lo)),(50,.ptr (I ((GS.at yD yx).lo))),(49,.ptr (.agg [I ((GS.at yD yx).lo),I ((GS.at yD yx).hi)])),(48,I yx),(47,.sl yD.nl (yD.l.map Sn.D) (zsl yD.nl 2) none),(46,B true),(45,B true),(44,I (yD.l.length:Int)),(43,.sl yD.nl (yD.l.map Sn.D) (zsl yD.nl 2) none),(42,I yx),(41,B false),(40,B false),(39,I (yF.l.length:Int)),(38,.sl yF.nl (yF.l.map Sn.D) (zsl yF.nl 2) none),(37,I yB),(8,.lref 1 0 2 0),(36,.agg [I 0,I 0]),(35,B true),(34,.tup []),(33,.tup []),(32,.tup []),(31,.tup []),(30,B true),(29,B true),(28,I (yD.l.length:Int)),(27,.sl yD.nl (yD.l.map Sn.D) (zsl yD.nl 2) none),(26,I yx),(3,.sl yD.nl (yD.l.map Sn.D) (zsl yD.nl 2) none),(4,.sl yF.nl (yF.l.map Sn.D) (zsl yF.nl 2) none),(5,.lsl 0 0 yq.length 2 none),(6,I yx),(7,I yB)],[(1,⟨[.agg [I ((GS.at yD yx).lo),I ((GS.at yD yx).hi)]],2,false⟩),(2,⟨[.agg [I ((GS.at yD yx).lo),I ((GS.at yD yx).hi)]],2,false⟩),(3,⟨(yq++[(GS.at yD yx)]).map Sn.D,2,false⟩)],4,0⟩

def sd20290 (yD:GS Sn) (yF:GS Sn) (yq:List Sn) (yx:Int) (yB:Int):St:=⟨107,[(5,.lsl 3 0 ((yq++[(GS.at yD yx)]).length) 2 none),(105,.lsl 3 0 ((yq++[(GS.at yD yx)]).length) 2 none),(104,.lsl 2 0 1 2 (some 1)),(103,.agg [I ((GS.at yD yx).lo),I ((GS.at yD yx).hi)]),(102,.lsl 0 0 yq.length 2 none),(87,B false),(86,.tup []),(85,.tup []),(84,.tup []),(83,.tup []),(82,.tup []),(81,.tup []),(80,.tup []),(79,.tup []),(78,.tup []),(77,.tup []),(76,B false),(75,B false),(74,I (yq.length:Int)),(9,I (yq.length:Int)),(73,I (yq.length:Int)),(72,.lsl 0 0 yq.length 2 none),(6,I (w64 (yx+1))),(65,I (w64 (yx+1))),(64,I yx),(63,.agg [I ((GS.at yD yx).lo),I ((GS.at yD yx).hi)]),(62,.ptr (.agg [I ((GS.at yD yx).lo),I ((GS.at yD yx).hi)])),(61,I yx),(60,.sl yD.nl (yD.l.map Sn.D) (zsl yD.nl 2) none),(59,B true),(58,B true),(57,B true),(56,I ((GS.at yF yB).lo)),(55,.ptr (I ((GS.at yF yB).lo))),(54,.ptr (.agg [I ((GS.at yF yB).lo),I ((GS.at yF yB).hi)])),(53,I yB),(52,.sl yF.nl (yF.l.map Sn.D) (zsl yF.nl 2) none),(51,I ((GS.at yD yx).lo)),(50,.ptr (I ((GS.at yD yx).lo))),(49,.ptr (.agg [I ((GS.at yD yx).lo),I ((GS.at yD yx).hi)])),(48,I yx),(47,.sl yD.nl (yD.l.map Sn.D) (zsl yD.nl 2) none),(46,B true),(45,B true),(44,I (yD.l.length:Int)),(43,.sl yD.nl (yD.l.map Sn.D) (zsl yD.nl 2) none),(42,I yx),(41,B false),(40,B false),(39,I (yF.l.length:Int)),(38,.sl yF.nl (yF.l.map Sn.D) (zsl yF.nl 2) none),(37,I yB),(8,.lref 1 0 2 0),(36,.agg [I 0,I 0]),(35,B true),(34,.tup []),(33,.tup []),(32,.tup []),(31,.tup []),(30,B true),(29,B true),(28,I (yD.l.length:Int)),(27,.sl yD.nl (yD.l.map Sn.D) (zsl yD.nl 2) none),(26,I yx),(3,.sl yD.nl (yD.l.map Sn.D) (zsl yD.nl 2) none),(4,.sl yF.nl (yF.l.map Sn.D) (zsl yF.nl 2) none),(5,.lsl 0 0 yq.length 2 none),(6,I yx),(7,I yB)],[(1,⟨[.agg [I ((GS.at yD yx).lo),I ((GS.at yD yx).hi)]],2,false⟩),(2,⟨[.agg [I ((GS.at yD yx).lo),I ((GS.at yD yx).hi)]],2,false⟩),(3,⟨(yq++[(GS.at yD yx)]).map Sn.D,2,false⟩)],4,0⟩

def sd20291 (yD:GS Sn) (yF:GS Sn) (yq:List Sn) (yx:Int) (yB:Int):St:=⟨107,[(101,.lref 0 ((w64 ((yq.length:Int) - 1)).toNat) 2 1),(100,.lref 0 ((w64 ((yq.length:Int) - 1)).toNat) 2 0),(99,I (zN ((yq.getD ((w64 ((yq.length:Int) - 1)).toNat) default).hi) ((GS.at yF yB).hi))),(98,I ((GS.at yF yB).hi)),(97,.lref 1 0 2 1),(96,I ((yq.getD ((w64 ((yq.length:Int) - 1)).toNat) default).hi)),(95,.lref 0 ((w64 ((yq.length:Int) - 1)).toNat) 2 1),(94,.lref 0 ((w64 ((yq.length:Int) - 1)).toNat) 2 0),(93,I (w64 ((yq.length:Int) - 1))),(92,I (yq.length:Int)),(91,.lsl 0 0 yq.length 2 none),(90,I (w64 ((yq.length:Int) - 1))),(89,I (yq.length:Int)),(88,.lsl 0 0 yq.length 2 none),(87,B true),(86,B true),(85,I (w64 (((yq.getD ((w64 ((yq.length:Int) - 1)).toNat) default).hi)+1))),(84,I ((yq.getD ((w64 ((yq.length:Int) - 1)).toNat) default).hi)),(83,.lref 0 ((w64 ((yq.length:Int) - 1)).toNat) 2 1),(82,.lref 0 ((w64 ((yq.length:Int) - 1)).toNat) 2 0),(81,I (w64 ((yq.length:Int) - 1))),(80,I (yq.length:Int)),(79,.lsl 0 0 yq.length 2 none),(78,I ((GS.at yF yB).lo)),(77,.lref 1 0 2 0),(76,B true),(75,B true),(74,I (yq.length:Int)),(9,I (yq.length:Int)),(73,I (yq.length:Int)),(72,.lsl 0 0 yq.length 2 none),(7,I (w64 (yB+1))),(71,I (w64 (yB+1))),(70,I yB),(69,.agg [I ((GS.at yF yB).lo),I ((GS.at yF yB).hi)]),(68,.ptr (.agg [I ((GS.at yF yB).lo),I ((GS.at yF yB).hi)])),(67,I yB),(66,.sl yF.nl (yF.l.map Sn.D) (zsl yF.nl 2) none),(59,B false),(58,B false),(57,B false),(56,I ((GS.at yF yB).lo)),(55,.ptr (I ((GS.at yF yB).lo))),(54,.ptr (.agg [I ((GS.at yF yB).lo),I ((GS.at yF yB).hi)])),(53,I yB),(52,.sl yF.nl (yF.l.map Sn.D) (zsl yF.nl 2) none),(51,I ((GS.at yD yx).lo)),(50,.ptr (I ((GS.at yD yx).lo))),(49,.ptr (.agg [I ((GS.at yD yx).lo),I ((GS.at yD yx).hi)])),(48,I yx),(47,.sl yD.nl (yD.l.map Sn.D) (zsl yD.nl 2) none),(46,B true),(45,B true),(44,I (yD.l.length:Int)),(43,.sl yD.nl (yD.l.map Sn.D) (zsl yD.nl 2) none),(42,I yx),(41,B false),(40,B false),(39,I (yF.l.length:Int)),(38,.sl yF.nl (yF.l.map Sn.D) (zsl yF.nl 2) none),(37,I yB),(8,.lref 1 0 2 0),(36,.agg [I 0,I 0]),(35,B true),(34,.tup []),(33,.tup []),(32,.tup []),(31,.tup []),(30,B true),(29,B true),(28,I (yD.l.length:Int)),(27,.sl yD.nl (yD.l.map Sn.D) (zsl yD.nl 2) none),(26,I yx),(3,.sl yD.nl (yD.l.map Sn.D) (zsl yD.nl 2) none),(4,.sl yF.nl (yF.l.map Sn.D) (zsl yF.nl 2) none),(5,.lsl 0 0 yq.length 2 none),(6,I yx),(7,I yB)],[(0,⟨(yq.set ((w64 ((yq.length:Int) - 1)).toNat) (⟨(yq.getD ((w64 ((yq.length:Int) - 1)).toNat) default).lo,zN ((yq.getD ((w64 ((yq.length:Int) - 1)).toNat) default).hi) ((GS.at yF yB).hi)⟩:Sn)).map Sn.D,2,false⟩),(1,⟨[.agg [I ((GS.at yF yB).lo),I ((GS.at yF yB).hi)]],2,false⟩)],2,0⟩

def sd20292 (yD:GS Sn) (yF:GS Sn) (yq:List Sn) (yx:Int) (yB:Int):St:=⟨107,[(5,.lsl 3 0 ((yq++[(GS.at yF yB)]).length) 2 none),(105,.lsl 3 0 ((yq++[(GS.at yF yB)]).length) 2 none),(104,.lsl 2 0 1 2 (some 1)),(103,.agg [I ((GS.at yF yB).lo),I ((GS.at yF yB).hi)]),(102,.lsl 0 0 yq.length 2 none),(87,B false),(86,B false),(85,I (w64 (((yq.getD ((w64 ((yq.length:Int) - 1)).toNat) default).hi)+1))),(84,I ((yq.getD ((w64 ((yq.length:Int) - 1)).toNat) default).hi)),(83,.lref 0 ((w64 ((yq.length:Int) - 1)).toNat) 2 1),(82,.lref 0 ((w64 ((yq.length:Int) - 1)).toNat) 2 0),(81,I (w64 ((yq.length:Int) - 1))),(80,I (yq.length:Int)),(79,.lsl 0 0 yq.length 2 none),(78,I ((GS.at yF yB).lo)),(77,.lref 1 0 2 0),(76,B true),(75,B true),(74,I (yq.length:Int)),(9,I (yq.length:Int)),(73,I (yq.length:Int)),(72,.lsl 0 0 yq.length 2 none),(7,I (w64 (yB+1))),(71,I (w64 (yB+1))),(70,I yB),(69,.agg [I ((GS.at yF yB).lo),I ((GS.at yF yB).hi)]),(68,.ptr (.agg [I ((GS.at yF yB).lo),I ((GS.at yF yB).hi)])),(67,I yB),(66,.sl yF.nl (yF.l.map Sn.D) (zsl yF.nl 2) none),(59,B false),(58,B false),(57,B false),(56,I ((GS.at yF yB).lo)),(55,.ptr (I ((GS.at yF yB).lo))),(54,.ptr (.agg [I ((GS.at yF yB).lo),I ((GS.at yF yB).hi)])),(53,I yB),(52,.sl yF.nl (yF.l.map Sn.D) (zsl yF.nl 2) none),(51,I ((GS.at yD yx).lo)),(50,.ptr (I ((GS.at yD yx).lo))),(49,.ptr (.agg [I ((GS.at yD yx).lo),I ((GS.at yD yx).hi)])),(48,I yx),(47,.sl yD.nl (yD.l.map Sn.D) (zsl yD.nl 2) none),(46,B true),(45,B true),(44,I (yD.l.length:Int)),(43,.sl yD.nl (yD.l.map Sn.D) (zsl yD.nl 2) none),(42,I yx),(41,B false),(40,B false),(39,I (yF.l.length:Int)),(38,.sl yF.nl (yF.l.map Sn.D) (zsl yF.nl 2) none),(37,I yB),(8,.lref 1 0 2 0),(36,.agg [I 0,I 0]),(35,B true),(34,.tup []),(33,.tup []),(32,.tup []),(31,.tup []),(30,B true),(29,B true),(28,I (yD.l.length:Int)),(27,.sl yD.nl (yD.l.map Sn.D) (zsl yD.nl 2) none),(26,I yx),(3,.sl yD.nl (yD.l.map Sn.D) (zsl yD.nl 2) none),(4,.sl yF.nl (yF.l.map Sn.D) (zsl yF.nl 2) none),(5,.lsl 0 0 yq.length 2 none),(6,I yx),(7,I yB)],[(1,⟨[.agg [I ((GS.at yF yB).lo),I ((GS.at yF yB).hi)]],2,false⟩),(2,⟨[.agg [I ((GS.at yF yB).lo),I ((GS.at yF yB).hi)]],2,false⟩),(3,⟨(yq++[(GS.at yF yB)]).map Sn.D,2,false⟩)],4,0⟩

def sd20293 (yD:GS Sn) (yF:GS Sn) (yq:List Sn) (yx:Int) (yB:Int):St:=⟨107,[(5,.lsl 3 0 ((yq++[(GS.at yF yB)]).length) 2 none),(105,.lsl 3 0 ((yq++[(GS.at yF yB)]).length) 2 none),(104,.lsl 2 0 1 2 (some 1)),(103,.agg [I ((GS.at yF yB).lo),I ((GS.at yF yB).hi)]),(102,.lsl 0 0 yq.length 2 none),(87,B false),(86,.tup []),(85,.tup []),(84,.tup []),(83,.tup []),(82,.tup []),(81,.tup []),(80,.tup []),(79,.tup []),(78,.tup []),(77,.tup []),(76,B false),(75,B false),(74,I (yq.length:Int)),(9,I (yq.length:Int)),(73,I (yq.length:Int)),(72,.lsl 0 0 yq.length 2 none),(7,I (w64 (yB+1))),(71,I (w64 (yB+1))),(70,I yB),(69,.agg [I ((GS.at yF yB).lo),I ((GS.at yF yB).hi)]),(68,.ptr (.agg [I ((GS.at yF yB).lo),I ((GS.at yF yB).hi)])),(67,I yB),(66,.sl yF.nl (yF.l.map Sn.D) (zsl yF.nl 2) none),(59,B false),(58,B false),(57,B false),(56,I ((GS.at yF yB).lo)),(55,.ptr (I ((GS.at yF yB).lo))),(54,.ptr (.agg [I ((GS.at yF yB).lo),I ((GS.at yF yB).hi)])),(53,I yB),(52,.sl yF.nl (yF.l.map Sn.D) (zsl yF.nl 2) none),(51,I ((GS.at yD yx).lo)),(50,.ptr (I ((GS.at yD yx).lo))),(49,.ptr (.agg [I ((GS.at yD yx).lo),I ((GS.at yD yx).hi)])),(48,I yx),(47,.sl yD.nl (yD.l.map Sn.D) (zsl yD.nl 2) none),(46,B true),(45,B true),(44,I (yD.l.length:Int)),(43,.sl yD.nl (yD.l.map Sn.D) (zsl yD.nl 2) none),(42,I yx),(41,B false),(40,B false),(39,I (yF.l.length:Int)),(38,.sl yF.nl (yF.l.map Sn.D) (zsl yF.nl 2) none),(37,I yB),(8,.lref 1 0 2 0),(36,.agg [I 0,I 0]),(35,B true),(34,.tup []),(33,.tup []),(32,.tup []),(31,.tup []),(30,B true),(29,B true),(28,I (yD.l.length:Int)),(27,.sl yD.nl (yD.l.map Sn.D) (zsl yD.nl 2) none),(26,I yx),(3,.sl yD.nl (yD.l.map Sn.D) (zsl yD.nl 2) none),(4,.sl yF.nl (yF.l.map Sn.D) (zsl yF.nl 2) none),(5,.lsl 0 0 yq.length 2 none),(6,I yx),(7,I yB)],[(1,⟨[.agg [I ((GS.at yF yB).lo),I ((GS.at yF yB).hi)]],2,false⟩),(2,⟨[.agg [I ((GS.at yF yB).lo),I ((GS.at yF yB).hi)]],2,false⟩),(3,⟨(yq++[(GS.at yF yB)]).map Sn.D,2,false⟩)],4,0⟩

def sd20294 (yD:GS Sn) (yF:GS Sn) (yq:List Sn) (yx:Int) (yB:Int):St:=⟨107,[(101,.lref 0 ((w64 ((yq.length:Int) - 1)).toNat) 2 1),(100,.lref 0 ((w64 ((yq.length:Int) - 1)).toNat) 2 0),(99,I (zN ((yq.getD ((w64 ((yq.length:Int) - 1)).toNat) default).hi) ((GS.at yD yx).hi))),(98,I ((GS.at yD yx).hi)),(97,.lref 1 0 2 1),(96,I ((yq.getD ((w64 ((yq.length:Int) - 1)).toNat) default).hi)),(95,.lref 0 ((w64 ((yq.length:Int) - 1)).toNat) 2 1),(94,.lref 0 ((w64 ((yq.length:Int) - 1)).toNat) 2 0),(93,I (w64 ((yq.length:Int) - 1))),(92,I (yq.length:Int)),(91,.lsl 0 0 yq.length 2 none),(90,I (w64 ((yq.length:Int) - 1))),(89,I (yq.length:Int)),(88,.lsl 0 0 yq.length 2 none),(87,B true),(86,B true),(85,I (w64 (((yq.getD ((w64 ((yq.length:Int) - 1)).toNat) default).hi)+1))),(84,I ((yq.getD ((w64 ((yq.length:Int) - 1)).toNat) default).hi)),(83,.lref 0 ((w64 ((yq.length:Int) - 1)).toNat) 2 1),(82,.lref 0 ((w64 ((yq.length:Int) - 1)).toNat) 2 0),(81,I (w64 ((yq.length:Int) - 1))),(80,I (yq.length:Int)),(79,.lsl 0 0 yq.length 2 none),(78,I ((GS.at yD yx).lo)),(77,.lref 1 0 2 0),(76,B true),(75,B true),(74,I (yq.length:Int)),(9,I (yq.length:Int)),(73,I (yq.length:Int)),(72,.lsl 0 0 yq.length 2 none),(6,I (w64 (yx+1))),(65,I (w64 (yx+1))),(64,I yx),(63,.agg [I ((GS.at yD yx).lo),I ((GS.at yD yx).hi)]),(62,.ptr (.agg [I ((GS.at yD yx).lo),I ((GS.at yD yx).hi)])),(61,I yx),(60,.sl yD.nl (yD.l.map Sn.D) (zsl yD.nl 2) none),(59,B true),(58,.tup []),(57,.tup []),(56,.tup []),(55,.tup []),(54,.tup []),(53,.tup []),(52,.tup []),(51,.tup []),(50,.tup []),(49,.tup []),(48,.tup []),(47,.tup []),(46,.tup []),(45,.tup []),(44,.tup []),(43,.tup []),(42,.tup []),(41,B true),(40,B true),(39,I (yF.l.length:Int)),(38,.sl yF.nl (yF.l.map Sn.D) (zsl yF.nl 2) none),(37,I yB),(8,.lref 1 0 2 0),(36,.agg [I 0,I 0]),(35,B true),(34,B true),(33,I (yF.l.length:Int)),(32,.sl yF.nl (yF.l.map Sn.D) (zsl yF.nl 2) none),(31,I yB),(30,B false),(29,B false),(28,I (yD.l.length:Int)),(27,.sl yD.nl (yD.l.map Sn.D) (zsl yD.nl 2) none),(26,I yx),(3,.sl yD.nl (yD.l.map Sn.D) (zsl yD.nl 2) none),(4,.sl yF.nl (yF.l.map Sn.D) (zsl yF.nl 2) none),(5,.lsl 0 0 yq.length 2 none),(6,I yx),(7,I yB)],[(0,⟨(yq.set ((w64 ((yq.length:Int) - 1)).toNat) (⟨(yq.getD ((w64 ((yq.length:Int) - 1)).toNat) default).lo,zN ((yq.getD ((w64 ((yq.length:Int) - 1)).toNat) default).hi) ((GS.at yD yx).hi)⟩:Sn)).map Sn.D,2,false⟩),(1,⟨[.agg [I ((GS.at yD yx).lo),I ((GS.at yD yx).hi)]],2,false⟩)],2,0⟩

def sd20295 (yD:GS Sn) (yF:GS Sn) (yq:List Sn) (yx:Int) (yB:Int):St:=⟨107,[(5,.lsl 3 0 ((yq++[(GS.at yD yx)]).length) 2 none),(105,.lsl 3 0 ((yq++[(GS.at yD yx)]).length) 2 none),(104,.lsl 2 0 1 2 (some 1)),(103,.agg [I ((GS.at yD yx).lo),I ((GS.at yD yx).hi)]),(102,.lsl 0 0 yq.length 2 none),(87,B false),(86,B false),(85,I (w64 (((yq.getD ((w64 ((yq.length:Int) - 1)).toNat) default).hi)+1))),(84,I ((yq.getD ((w64 ((yq.length:Int) - 1)).toNat) default).hi)),(83,.lref 0 ((w64 ((yq.length:Int) - 1)).toNat) 2 1),(82,.lref 0 ((w64 ((yq.length:Int) - 1)).toNat) 2 0),(81,I (w64 ((yq.length:Int) - 1))),(80,I (yq.length:Int)),(79,.lsl 0 0 yq.length 2 none),(78,I ((GS.at yD yx).lo)),(77,.lref 1 0 2 0),(76,B true),(75,B true),(74,I (yq.length:Int)),(9,I (yq.length:Int)),(73,I (yq.length:Int)),(72,.lsl 0 0 yq.length 2 none),(6,I (w64 (yx+1))),(65,I (w64 (yx+1))),(64,I yx),(63,.agg [I ((GS.at yD yx).lo),I ((GS.at yD yx).hi)]),(62,.ptr (.agg [I ((GS.at yD yx).lo),I ((GS.at yD yx).hi)])),(61,I yx),(60,.sl yD.nl (yD.l.map Sn.D) (zsl yD.nl 2) none),(59,B true),(58,.tup []),(57,.tup []),(56,.tup []),(55,.tup []),(54,.tup []),(53,.tup []),(52,.tup []),(51,.tup []),(50,.tup []),(49,.tup []),(48,.tup []),(47,.tup []),(46,.tup []),(45,.tup []),(44,.tup []),(43,.tup []),(42,.tup []),(41,B true),(40,B true),(39,I (yF.l.length:Int)),(38,.sl yF.nl (yF.l.map Sn.D) (zsl yF.nl 2) none),(37,I yB),(8,.lref 1 0 2 0),(36,.agg [I 0,I 0]),(35,B true),(34,B true),(33,I (yF.l.length:Int)),(32,.sl yF.nl (yF.l.map Sn.D) (zsl yF.nl 2) none),(31,I yB),(30,B false),(29,B false),(28,I (yD.l.length:Int)),(27,.sl yD.nl (yD.l.map Sn.D) (zsl yD.nl 2) none),(26,I yx),(3,.sl yD.nl (yD.l.map Sn.D) (zsl yD.nl 2) none),(4,.sl yF.nl (yF.l.map Sn.D) (zsl yF.nl 2) none),(5,.lsl 0 0 yq.length 2 none),(6,I yx),(7,I yB)],[(1,⟨[.agg [I ((GS.at yD yx).lo),I ((GS.at yD yx).hi)]],2,false⟩),(2,⟨[.agg [I ((GS.at yD yx).lo),I ((GS.at yD yx).hi)]],2,false⟩),(3,⟨(yq++[(GS.at yD yx)]).map Sn.D,2,false⟩)],4,0⟩

def sd20296 (yD:GS Sn) (yF:GS Sn) (yq:List Sn) (yx:Int) (yB:Int):St:=⟨107,[(5,.lsl 3 0 ((yq++[(GS.at yD yx)]).length) 2 none),(105,.lsl 3 0 ((yq++[(GS.at yD yx)]).length) 2 none),(104,.lsl 2 0 1 2 (some 1)),(103,.agg [I ((GS.at yD yx).lo),I ((GS.at yD yx).hi)]),(102,.lsl 0 0 yq.length 2 none),(87,B false),(86,.tup []),(85,.tup []),(84,.tup []),(83,.tup []),(82,.tup []),(81,.tup []),(80,.tup []),(79,.tup []),(78,.tup []),(77,.tup []),(76,B false),(75,B false),(74,I (yq.length:Int)),(9,I (yq.length:Int)),(73,I (yq.length:Int)),(72,.lsl 0 0 yq.length 2 none),(6,I (w64 (yx+1))),(65,I (w64 (yx+1))),(64,I yx),(63,.agg [I ((GS.at yD yx).lo),I ((GS.at yD yx).hi)]),(62,.ptr (.agg [I ((GS.at yD yx).lo),I ((GS.at yD yx).hi)])),(61,I yx),(60,.sl yD.nl (yD.l.map Sn.D) (zsl yD.nl 2) none),(59,B true),(58,.tup []),(57,.tup []),(56,.tup []),(55,.tup []),(54,.tup []),(53,.tup []),(52,.tup []),(51,.tup []),(50,.tup []),(49,.tup []),(48,.tup []),(47,.tup []),(46,.tup []),(45,.tup []),(44,.tup []),(43,.tup []),(42,.tup []),(41,B true),(40,B true),(39,I (yF.l.length:Int)),(38,.sl yF.nl (yF.l.map Sn.D) (zsl yF.nl 2) none),(37,I yB),(8,.lref 1 0 2 0),(36,.agg [I 0,I 0]),(35,B true),(34,B true),(33,I (yF.l.length:Int)),(32,.sl yF.nl (yF.l.map Sn.D) (zsl yF.nl 2) none),(31,I yB),(30,B false),(29,B false),(28,I (yD.l.length:Int)),(27,.sl yD.nl (yD.l.map Sn.D) (zsl yD.nl 2) none),(26,I yx),(3,.sl yD.nl (yD.l.map Sn.D) (zsl yD.nl 2) none),(4,.sl yF.nl (yF.l.map Sn.D) (zsl yF.nl 2) none),(5,.lsl 0 0 yq.length 2 none),(6,I yx),(7,I yB)],[(1,⟨[.agg [I ((GS.at yD yx).lo),I ((GS.at yD yx).hi)]],2,false⟩),(2,⟨[.agg [I ((GS.at yD yx).lo),I ((GS.at yD yx).hi)]],2,false⟩),(3,⟨(yq++[(GS.at yD yx)]).map Sn.D,2,false⟩)],4,0⟩

def sd20297 (yD:GS Sn) (yF:GS Sn) (yq:List Sn) (yx:Int) (yB:Int):St:=⟨107,[(101,.lref 0 ((w64 ((yq.length:Int) - 1)).toNat) 2 1),(100,.lref 0 ((w64 ((yq.length:Int) - 1)).toNat) 2 0),(99,I (zN ((yq.getD ((w64 ((yq.length:Int) - 1)).toNat) default).hi) ((GS.at yF yB).hi))),(98,I ((GS.at yF yB).hi)),(97,.lref 1 0 2 1),(96,I ((yq.getD ((w64 ((yq.length:Int) - 1)).toNat) default).hi)),(95,.lref 0 ((w64 ((yq.length:Int) - 1)).toNat) 2 1),(94,.lref 0 ((w64 ((yq.length:Int) - 1)).toNat) 2 0),(93,I (w64 ((yq.length:Int) - 1))),(92,I (yq.length:Int)),(91,.lsl 0 0 yq.length 2 none),(90,I (w64 ((yq.length:Int) - 1))),(89,I (yq.length:Int)),(88,.lsl 0 0 yq.length 2 none),(87,B true),(86,B true),(85,I (w64 (((yq.getD ((w64 ((yq.length:Int) - 1)).toNat) default).hi)+1))),(84,I ((yq.getD ((w64 ((yq.length:Int) - 1)).toNat) default).hi)),(83,.lref 0 ((w64 ((yq.length:Int) - 1)).toNat) 2 1),(82,.lref 0 ((w64 ((yq.length:Int) - 1)).toNat) 2 0),(81,I (w64 ((yq.length:Int) - 1))),(80,I (yq.length:Int)),(79,.lsl 0 0 yq.length 2 none),(78,I ((GS.at yF yB).lo)),(77,.lref 1 0 2 0),(76,B true),(75,B true),(74,I (yq.length:Int)),(9,I (yq.length:Int)),(73,I (yq.length:Int)),(72,.lsl 0 0 yq.length 2 none),(7,I (w64 (yB+1))),(71,I (w64 (yB+1))),(70,I yB),(69,.agg [I ((GS.at yF yB).lo),I ((GS.at yF yB).hi)]),(68,.ptr (.agg [I ((GS.at yF yB).lo),I ((GS.at yF yB).hi)])),(67,I yB),(66,.sl yF.nl (yF.l.map Sn.D) (zsl yF.nl 2) none),(59,B false),(58,B false),(57,.tup []),(56,.tup []),(55,.tup []),(54,.tup []),(53,.tup []),(52,.tup []),(51,.tup []),(50,.tup []),(49,.tup []),(48,.tup []),(47,.tup []),(46,B false),(45,B false),(44,I (yD.l.length:Int)),(43,.sl yD.nl (yD.l.map Sn.D) (zsl yD.nl 2) none),(42,I yx),(41,B false),(40,B false),(39,I (yF.l.length:Int)),(38,.sl yF.nl (yF.l.map Sn.D) (zsl yF.nl 2) none),(37,I yB),(8,.lref 1 0 2 0),(36,.agg [I 0,I 0]),(35,B true),(34,B true),(33,I (yF.l.length:Int)),(32,.sl yF.nl (yF.l.map Sn.D) (zsl yF.nl 2) none),(31,I yB),(30,B false),(29,B false),(28,I (yD.l.length:Int)),(27,.sl yD.nl (yD.l.map Sn.D) (zsl yD.nl 2) none),(26,I yx),(3,.sl yD.nl (yD.l.map Sn.D) (zsl yD.nl 2) none),(4,.sl yF.nl (yF.l.map Sn.D) (zsl yF.nl 2) none),(5,.lsl 0 0 yq.length 2 none),(6,I yx),(7,I yB)],[(0,⟨(yq.set ((w64 ((yq.length:Int) - 1)).toNat) (⟨(yq.getD ((w64 ((yq.length:Int) - 1)).toNat) default).lo,zN ((yq.getD ((w64 ((yq.length:Int) - 1)).toNat) default).hi) ((GS.at yF yB).hi)⟩:Sn)).map Sn.D,2,false⟩),(1,⟨[.agg [I ((GS.at yF yB).lo),I ((GS.at yF yB).hi)]],2,false⟩)],2,0⟩

def sd20298 (yD:GS Sn) (yF:GS Sn) (yq:List Sn) (yx:Int) (yB:Int):St:=⟨107,[(5,.lsl 3 0 ((yq++[(GS.at yF yB)]).length) 2 none),(105,.lsl 3 0 ((yq++[(GS.at yF yB)]).length) 2 none),(104,.lsl 2 0 1 2 (some 1)),(103,.agg [I ((GS.at yF yB).lo),I ((GS.at yF yB).hi)]),(102,.lsl 0 0 yq.length 2 none),(87,B false),(86,B false),(85,I (w64 (((yq.getD ((w64 ((yq.length:Int) - 1)).toNat) default).hi)+1))),(84,I ((yq.getD ((w64 ((yq.length:Int) - 1)).toNat) default).hi)),(83,.lref 0 ((w64 ((yq.length:Int) - 1)).toNat) 2 1),(82,.lref 0 ((w64 ((yq.length:Int) - 1)).toNat) 2 0),(81,I (w64 ((yq.length:Int) - 1))),(80,I (yq.length:Int)),(79,.lsl 0 0 yq.length 2 none),(78,I ((GS.at yF yB).lo)),(77,.lref 1 0 2 0),(76,B true),(75,B true),(74,I (yq.length:Int)),(9,I (yq.length:Int)),(73,I (yq.length:Int)),(72,.lsl 0 0 yq.length 2 none),(7,I (w64 (yB+1))),(71,I (w64 (yB+1))),(70,I yB),(69,.agg [I ((GS.at yF yB).lo),I ((GS.at yF yB).hi)]),(68,.ptr (.agg [I ((GS.at yF yB).lo),I ((GS.at yF yB).hi)])),(67,I yB),(66,.sl yF.nl (yF.l.map Sn.D) (zsl yF.nl 2) none),(59,B false),(58,B false),(57,.tup []),(56,.tup []),(55,.tup []),(54,.tup []),(53,.tup []),(52,.tup []),(51,.tup []),(50,.tup []),(49,.tup []),(48,.tup []),(47,.tup []),(46,B false),(45,B false),(44,I (yD.l.length:Int)),(43,.sl yD.nl (yD.l.map Sn.D) (zsl yD.nl 2) none),(42,I yx),(41,B false),(40,B false),(39,I (yF.l.length:Int)),(38,.sl yF.nl (yF.l.map Sn.D) (zsl yF.nl 2) none),(37,I yB),(8,.lref 1 0 2 0),(36,.agg [I 0,I 0]),(35,B true),(34,B true),(33,I (yF.l.length:Int)),(32,.sl yF.nl (yF.l.map Sn.D) (zsl yF.nl 2) none),(31,I yB),(30,B false),(29,B false),(28,I (yD.l.length:Int)),(27,.sl yD.nl (yD.l.map Sn.D) (zsl yD.nl 2) none),(26,I yx),(3,.sl yD.nl (yD.l.map Sn.D) (zsl yD.nl 2) none),(4,.sl yF.nl (yF.l.map Sn.D) (zsl yF.nl 2) none),(5,.lsl 0 0 yq.length 2 none),(6,I yx),(7,I yB)],[(1,⟨[.agg [I ((GS.at yF yB).lo),I ((GS.at yF yB).hi)]],2,false⟩),(2,⟨[.agg [I ((GS.at yF yB).lo),I ((GS.at yF yB).hi)]],2,false⟩),(3,⟨(yq++[(GS.at yF yB)]).map Sn.D,2,false⟩)],4,0⟩

def sd20299 (yD:GS Sn) (yF:GS Sn) (yq:List Sn) (yx:Int) (yB:Int):St:=⟨107,[(5,.lsl 3 0 ((yq++[(GS.at yF yB)]).length) 2 none),(105,.lsl 3 0 ((yq++[(GS.at yF yB)]).length) 2 none),(104,.lsl 2 0 1 2 (some 1)),(103,.agg [I ((GS.at yF yB).lo),I ((GS.at yF yB).hi)]),(102,.lsl 0 0 yq.length 2 none),(87,B false),(86,.tup []),(85,.tup []),(84,.tup []),(83,.tup []),(82,.tup []),(81,.tup []),(80,.tup []),(79,.tup []),(78,.tup []),(77,.tup []),(76,B false),(75,B false),(74,I (yq.length:Int)),(9,I (yq.length:Int)),(73,I (yq.length:Int)),(72,.lsl 0 0 yq.length 2 none),(7,I (w64 (yB+1))),(71,I (w64 (yB+1))),(70,I yB),(69,.agg [I ((GS.at yF yB).lo),I ((GS.at yF yB).hi)]),(68,.ptr (.agg [I ((GS.at yF yB).lo),I ((GS.at yF yB).hi)])),(67,I yB),(66,.sl yF.nl (yF.l.map Sn.D) (zsl yF.nl 2) none),(59,B false),(58,B false),(57,.tup []),(56,.tup []),(55,.tup []),(54,.tup []),(53,.tup []),(52,.tup []),(51,.tup []),(50,.tup []),(49,.tup []),(48,.tup []),(47,.tup []),(46,B false),(45,B false),(44,I (yD.l.length:Int)),(43,.sl yD.nl (yD.l.map Sn.D) (zsl yD.nl 2) none),(42,I yx),(41,B false),(40,B false),(39,I (yF.l.length:Int)),(38,.sl yF.nl (yF.l.map Sn.D) (zsl yF.nl 2) none),(37,I yB),(8,.lref 1 0 2 0),(36,.agg [I 0,I 0]),(35,B true),(34,B true),(33,I (yF.l.length:Int)),(32,.sl yF.nl (yF.l.map Sn.D) (zsl yF.nl 2) none),(31,I yB),(30,B false),(29,B false),(28,I (yD.l.length:Int)),(27,.sl yD.nl (yD.l.map Sn.D) (zsl yD.nl 2) none),(26,I yx),(3,.sl yD.nl (yD.l.map Sn.D) (zsl yD.nl 2) none),(4,.sl yF.nl (yF.l.map Sn.D) (zsl yF.nl 2) none),(5,.lsl 0 0 yq.length 2 none),(6,I yx),(7,I yB)],[(1,⟨[.agg [I ((GS.at yF yB).lo),I ((GS.at yF yB).hi)]],2,false⟩),(2,⟨[.agg [I ((GS.at yF yB).lo),I ((GS.at yF yB).hi)]],2,false⟩),(3,⟨(yq++[(GS.at yF yB)]).map Sn.D,2,false⟩)],4,0⟩

inductive LR_r_Join_8 where
 |x0 (yq:List Sn) (yx:Int) (yB:Int)
 |x1
 |out
instance:Inhabited LR_r_Join_8:=⟨.out⟩
def zV (yD:GS Sn) (yF:GS Sn):Nat→(List Sn)→Int→Int→LR_r_Join_8
 |0,_,_,_=>.out
 |xj+1,yq,yx,yB =>
  bif decide (yx < (yD.l.length:Int)) then
   bif (yB == (yF.l.length:Int)) then
    bif decide ((yq.length:Int)>0) then
     bif decide (((GS.at yD yx).lo)≤(w64 (((yq.getD ((w64 ((yq.length:Int) - 1)).toNat) default).hi)+1))) then
      zV yD yF xj (yq.set ((w64 ((yq.length:Int) - 1)).toNat) (⟨(yq.getD ((w64 ((yq.length:Int) - 1)).toNat) default).lo,zN ((yq.getD ((w64 ((yq.length:Int) - 1)).toNat) default).hi) ((GS.at yD yx).hi)⟩:Sn)) (w64 (yx+1)) yB
     else
      zV yD yF xj (yq++[(GS.at yD yx)]) (w64 (yx+1)) yB
    else
     zV yD yF xj (yq++[(GS.at yD yx)]) (w64 (yx+1)) yB
   else
    bif decide (((GS.at yD yx).lo)≤((GS.at yF yB).lo)) then
     bif decide ((yq.length:Int)>0) then
      bif decide (((GS.at yD yx).lo)≤(w64 (((yq.getD ((w64 ((yq.length:Int) - 1)).toNat) default).hi)+1))) then
       zV yD yF xj (yq.set ((w64 ((yq.length:Int) - 1)).toNat) (⟨(yq.getD ((w64 ((yq.length:Int) - 1)).toNat) default).lo,zN ((yq.getD ((w64 ((yq.length:Int) - 1)).toNat) default).hi) ((GS.at yD yx).hi)⟩:Sn)) (w64 (yx+1)) yB
      else
       zV yD yF xj (yq++[(GS.at yD yx)]) (w64 (yx+1)) yB
     else
      zV yD yF xj (yq++[(GS.at yD yx)]) (w64 (yx+1)) yB
    else
     bif decide ((yq.length:Int)>0) then
      bif decide (((GS.at yF yB).lo)≤(w64 (((yq.getD ((w64 ((yq.length:Int) - 1)).toNat) default).hi)+1))) then
       zV yD yF xj (yq.set ((w64 ((yq.length:Int) - 1)).toNat) (⟨(yq.getD ((w64 ((yq.length:Int) - 1)).toNat) default).lo,zN ((yq.getD ((w64 ((yq.length:Int) - 1)).toNat) default).hi) ((GS.at yF yB).hi)⟩:Sn)) yx (w64 (yB+1))
      else
       zV yD yF xj (yq++[(GS.at yF yB)]) yx (w64 (yB+1))
     else
      zV yD yF xj (yq++[(GS.at yF yB)]) yx (w64 (yB+1))
  else
   bif decide (yB < (yF.l.length:Int)) then
    bif (yB == (yF.l.length:Int)) then
     bif decide ((yq.length:Int)>0) then
      bif decide (((GS.at yD yx).lo)≤(w64 (((yq.getD ((w64 ((yq.length:Int) - 1)).toNat) default).hi)+1))) then
       zV yD yF xj (yq.set ((w64 ((yq.length:Int) - 1)).toNat) (⟨(yq.getD ((w64 ((yq.length:Int) - 1)).toNat) default).lo,zN ((yq.getD ((w64 ((yq.length:Int) - 1)).toNat) default).hi) ((GS.at yD yx).hi)⟩:Sn)) (w64 (yx+1)) yB
      else
       zV yD yF xj (yq++[(GS.at yD yx)]) (w64 (yx+1)) yB
     else
      zV yD yF xj (yq++[(GS.at yD yx)]) (w64 (yx+1)) yB
    else
     bif decide ((yq.length:Int)>0) then
      bif decide (((GS.at yF yB).lo)≤(w64 (((yq.getD ((w64 ((yq.length:Int) - 1)).toNat) default).hi)+1))) then
       zV yD yF xj (yq.set ((w64 ((yq.length:Int) - 1)).toNat) (⟨(yq.getD ((w64 ((yq.length:Int) - 1)).toNat) default).lo,zN ((yq.getD ((w64 ((yq.length:Int) - 1)).toNat) default).hi) ((GS.at yF yB).hi)⟩:Sn)) yx (w64 (yB+1))
      else
       zV yD yF xj (yq++[(GS.at yF yB)]) yx (w64 (yB+1))
     else
      zV yD yF xj (yq++[(GS.at yF yB)]) yx (w64 (yB+1))
   else
    .x0 yq yx yB
def r_Join_8 (yD:GS Sn) (yF:GS Sn):Nat→LR_r_Join_8
 |0=>.out
 |xj+1 =>
  bif decide (0 < (yD.l.length:Int)) then
   bif (0 == (yF.l.length:Int)) then
    zV yD yF xj [(GS.at yD 0)] 1 0
   else
    bif decide (((GS.at yD 0).lo)≤((GS.at yF 0).lo)) then
     zV yD yF xj [(GS.at yD 0)] 1 0
    else
     zV yD yF xj [(GS.at yF 0)] 0 1
  else
   bif decide (0 < (yF.l.length:Int)) then
    bif (0 == (yF.l.length:Int)) then
     zV yD yF xj [(GS.at yD 0)] 1 0
    else
     zV yD yF xj [(GS.at yF 0)] 0 1
   else
    .x1
def lr_r_Join_8 (yD:GS Sn) (yF:GS Sn):LR_r_Join_8→Exit × St
 |.x0 yq yx yB=>((.exit 0),⟨107,[(35,B false),(34,B false),(33,I (yF.l.length:Int)),(32,.sl yF.nl (yF.l.map Sn.D) (zsl yF.nl 2) none),(31,I yB),(30,B false),(29,B false),(28,I (yD.l.length:Int)),(27,.sl yD.nl (yD.l.map Sn.D) (zsl yD.nl 2) none),(26,I yx),(3,.sl yD.nl (yD.l.map Sn.D) (zsl yD.nl 2) none),(4,.sl yF.nl (yF.l.map Sn.D) (zsl yF.nl 2) none),(5,.lsl 0 0 yq.length 2 none),(6,I yx),(7,I yB)],[(0,⟨yq.map Sn.D,2,false⟩)],1,0⟩)
 |.x1=>((.exit 0),⟨107,[(35,B false),(34,B false),(33,I (yF.l.length:Int)),(32,.sl yF.nl (yF.l.map Sn.D) (zsl yF.nl 2) none),(31,I 0),(30,B false),(29,B false),(28,I (yD.l.length:Int)),(27,.sl yD.nl (yD.l.map Sn.D) (zsl yD.nl 2) none),(26,I 0),(3,.sl yD.nl (yD.l.map Sn.D) (zsl yD.nl 2) none),(4,.sl yF.nl (yF.l.map Sn.D) (zsl yF.nl 2) none),(5,.sl true [] 0 none),(6,I 0),(7,I 0)],[],0,0⟩)
 |.out=>(.normal,⟨0,[],[],0,0⟩)
def iv_r_Join_8 (yD:GS Sn) (yF:GS Sn):LR_r_Join_8→Prop
 |.x0 yq yx yB=>(0≤yx∧yx≤(yD.l.length:Int))∧(0≤yB∧yB≤(yF.l.length:Int))∧(1≤yq.length∧(yq.length:Int)≤yx+yB)
 |.x1=>True
 |.out=>True
def r_Join_8a_f_o1 (yD:GS Sn) (yF:GS Sn) (yx:Int):List Ora:=[.rw 28 (I (yD.l.length:Int)),.dec true,.rw 39 (I (yF.l.length:Int)),.dec true,.el (.agg [I ((GS.at yD yx).lo),I ((GS.at yD yx).hi)])]
def r_Join_8a_f_o2 (yq:List Sn):List Ora:=[.dec true,.op (some 82) ⟨.lref 0 ((w64 ((yq.length:Int) - 1)).toNat) 2 0,[],[],2⟩,.op (some 84) ⟨I ((yq.getD ((w64 ((yq.length:Int) - 1)).toNat) default).hi),[],[0],2⟩]
def r_Join_8a_f_o3 (yD:GS Sn) (yF:GS Sn) (yx:Int) (yB:Int):List Ora:=[.rw 28 (I (yD.l.length:Int)),.dec true,.rw 39 (I (yF.l.length:Int)),.dec false,.rw 44 (I (yD.l.length:Int)),.dec true,.el (.agg [I ((GS.at yD yx).lo),I ((GS.at yD yx).hi)]),.el (.agg [I ((GS.at yF yB).lo),I ((GS.at yF yB).hi)])]
def r_Join_8a_f_o4 (yD:GS Sn) (yq:List Sn) (yx:Int):List Ora:=[.dec true,.el (.agg [I ((GS.at yD yx).lo),I ((GS.at yD yx).hi)]),.dec true,.op (some 82) ⟨.lref 0 ((w64 ((yq.length:Int) - 1)).toNat) 2 0,[],[],2⟩,.op (some 84) ⟨I ((yq.getD ((w64 ((yq.length:Int) - 1)).toNat) default).hi),[],[0],2⟩]
def r_Join_8a_f_o5 (yF:GS Sn) (yq:List Sn) (yB:Int):List Ora:=[.dec false,.el (.agg [I ((GS.at yF yB).lo),I ((GS.at yF yB).hi)]),.dec true,.op (some 82) ⟨.lref 0 ((w64 ((yq.length:Int) - 1)).toNat) 2 0,[],[],2⟩,.op (some 84) ⟨I ((yq.getD ((w64 ((yq.length:Int) - 1)).toNat) default).hi),[],[0],2⟩]
def r_Join_8a_f_o6 (yD:GS Sn) (yF:GS Sn):List Ora:=[.rw 28 (I (yD.l.length:Int)),.dec false,.rw 33 (I (yF.l.length:Int)),.dec true,.rw 39 (I (yF.l.length:Int))]
def r_Join_8a_f_o7 (yD:GS Sn) (yq:List Sn) (yx:Int):List Ora:=[.dec true,.el (.agg [I ((GS.at yD yx).lo),I ((GS.at yD yx).hi)]),.dec true,.op (some 82) ⟨.lref 0 ((w64 ((yq.length:Int) - 1)).toNat) 2 0,[],[],2⟩,.op (some 84) ⟨I ((yq.getD ((w64 ((yq.length:Int) - 1)).toNat) default).hi),[],[0],2⟩]
def r_Join_8a_f_o8 (yD:GS Sn) (yF:GS Sn) (yB:Int):List Ora:=[.dec false,.rw 44 (I (yD.l.length:Int)),.dec false,.el (.agg [I ((GS.at yF yB).lo),I ((GS.at yF yB).hi)])]
def r_Join_8a_f_o9 (yq:List Sn):List Ora:=[.dec true,.op (some 82) ⟨.lref 0 ((w64 ((yq.length:Int) - 1)).toNat) 2 0,[],[],2⟩,.op (some 84) ⟨I ((yq.getD ((w64 ((yq.length:Int) - 1)).toNat) default).hi),[],[0],2⟩]
theorem lp_r_Join_8a (yD:GS Sn) (yF:GS Sn):∀(xj:Nat) (yq:List Sn) (yx:Int) (yB:Int) (hf8:zV yD yF xj yq yx yB≠.out) (ha32:yD.l.length≤1073741824) (hb32:yF.l.length≤1073741824) (hi1:0≤yx∧yx≤(yD.l.length:Int)) (hk1:0≤yB∧yB≤(yF.l.length:Int)) (ho1:1≤yq.length∧(yq.length:Int)≤yx+yB),(lim cfg).loop 75 lp75_8 ⟨107,[(3,.sl yD.nl (yD.l.map Sn.D) (zsl yD.nl 2) none),(4,.sl yF.nl (yF.l.map Sn.D) (zsl yF.nl 2) none),(5,.lsl 0 0 yq.length 2 none),(6,I yx),(7,I yB)],[(0,⟨yq.map Sn.D,2,false⟩)],1,0⟩=some (lr_r_Join_8 yD yF (zV yD yF xj yq yx yB)):=by
 intro xj
 induction xj with
 |zero =>
  intro yq yx yB hf8 ha32 hb32 hi1 hk1 ho1
  exact absurd rfl hf8
 |succ xj ih =>
  intro yq yx yB hf8 ha32 hb32 hi1 hk1 ho1
  unfold zV at hf8 ⊢
  revert hf8
  cases h22:decide (yx < (yD.l.length:Int)) with
  |true =>
   have g22:=of_decide_eq_true h22
   cases h23:(yB == (yF.l.length:Int)) with
   |true =>
    have g23:=eq_of_beq h23
    have p1:=(el_in (s:=yD) (f:=Sn.D) (k:=2) (i:=yx) (by omega) (by omega))
    cases h24:decide ((yq.length:Int)>0) with
    |true =>
     have g24:=of_decide_eq_true h24
     have p2:=(idx_row (C:=cfg) (nxt:=2) (t:=22) (ty:=ty22) (te:=zR) (e:=25) (o:=0) (len:=yq.length) (sz:=2) (cap:=none) (i:=w64 ((yq.length:Int) - 1)) (by kernel_rfl) rfl (by kernel_rfl) rfl (by simp only [length_append,length_cons,length_nil,zd] at *<;>omega) (by simp only [length_append,length_cons,length_nil,zd] at *<;>omega))
     have p3:=(load_row (C:=cfg) (objs:=[(0,⟨yq.map Sn.D,2,false⟩),(1,⟨[.agg [I ((GS.at yD yx).lo),I ((GS.at yD yx).hi)]],2,false⟩)]) (nxt:=2) (t:=3) (ty:=ty3) (o:=0) (n:=(w64 ((yq.length:Int) - 1)).toNat) (sz:=2) (sub:=1) (ob:=⟨yq.map Sn.D,2,false⟩) (e:=Sn.D (yq.getD ((w64 ((yq.length:Int) - 1)).toNat) default)) (d:=I ((yq.getD ((w64 ((yq.length:Int) - 1)).toNat) default).hi)) (by kernel_rfl) (by kernel_rfl) rfl (row_get (f:=Sn.D) (by simp only [length_append,length_cons,length_nil,zd] at *<;>omega)) (by kernel_rfl))
     cases h25:decide (((GS.at yD yx).lo)≤(w64 (((yq.getD ((w64 ((yq.length:Int) - 1)).toNat) default).hi)+1))) with
     |true =>
      have g25:=of_decide_eq_true h25
      intro hf8
      exact zz (ks:=[3,4,5,6,7]) (st':=(sd20285 yD yF yq yx yB)) ((r_Join_8a_f_o1 yD yF yx)++((r_Join_8a_f_o2 yq)++[.dec true,.op (some 94) ⟨.lref 0 ((w64 ((yq.length:Int) - 1)).toNat) 2 0,[],[],2⟩,.op (some 96) ⟨I ((yq.getD ((w64 ((yq.length:Int) - 1)).toNat) default).hi),[],[0],2⟩,.op (some 100) ⟨.lref 0 ((w64 ((yq.length:Int) - 1)).toNat) 2 0,[],[],2⟩,.stS 0 ⟨.tup [],[(0,some ⟨(yq.set ((w64 ((yq.length:Int) - 1)).toNat) (⟨(yq.getD ((w64 ((yq.length:Int) - 1)).toNat) default).lo,zN ((yq.getD ((w64 ((yq.length:Int) - 1)).toNat) default).hi) ((GS.at yD yx).hi)⟩:Sn)).map Sn.D,2,false⟩)],[0],2⟩])) (Ai (store_row (C:=cfg) (objs:=[(0,⟨yq.map Sn.D,2,false⟩),(1,⟨[.agg [I ((GS.at yD yx).lo),I ((GS.at yD yx).hi)]],2,false⟩)]) (nxt:=2) (t:=3) (ty:=ty3) (o:=0) (n:=(w64 ((yq.length:Int) - 1)).toNat) (sz:=2) (sub:=1) (els:=yq.map Sn.D) (els':=(yq.set ((w64 ((yq.length:Int) - 1)).toNat) (⟨(yq.getD ((w64 ((yq.length:Int) - 1)).toNat) default).lo,zN ((yq.getD ((w64 ((yq.length:Int) - 1)).toNat) default).hi) ((GS.at yD yx).hi)⟩:Sn)).map Sn.D) (e:=Sn.D (yq.getD ((w64 ((yq.length:Int) - 1)).toNat) default)) (e':=Sn.D (⟨(yq.getD ((w64 ((yq.length:Int) - 1)).toNat) default).lo,zN ((yq.getD ((w64 ((yq.length:Int) - 1)).toNat) default).hi) ((GS.at yD yx).hi)⟩:Sn)) (v:=I (zN ((yq.getD ((w64 ((yq.length:Int) - 1)).toNat) default).hi) ((GS.at yD yx).hi))) (by kernel_rfl) (by kernel_rfl) (row_get (f:=Sn.D) (by simp only [length_append,length_cons,length_nil,zd] at *<;>omega)) rfl (by kernel_rfl) rfl (by kernel_rfl) (row_set (f:=Sn.D))) (Ai (idx_row (C:=cfg) (nxt:=2) (t:=22) (ty:=ty22) (te:=zR) (e:=25) (o:=0) (len:=yq.length) (sz:=2) (cap:=none) (i:=w64 ((yq.length:Int) - 1)) (by kernel_rfl) rfl (by kernel_rfl) rfl (by simp only [length_append,length_cons,length_nil,zd] at *<;>omega) (by simp only [length_append,length_cons,length_nil,zd] at *<;>omega)) (Ai (load_row (C:=cfg) (objs:=[(0,⟨yq.map Sn.D,2,false⟩),(1,⟨[.agg [I ((GS.at yD yx).lo),I ((GS.at yD yx).hi)]],2,false⟩)]) (nxt:=2) (t:=3) (ty:=ty3) (o:=0) (n:=(w64 ((yq.length:Int) - 1)).toNat) (sz:=2) (sub:=1) (ob:=⟨yq.map Sn.D,2,false⟩) (e:=Sn.D (yq.getD ((w64 ((yq.length:Int) - 1)).toNat) default)) (d:=I ((yq.getD ((w64 ((yq.length:Int) - 1)).toNat) default).hi)) (by kernel_rfl) (by kernel_rfl) rfl (row_get (f:=Sn.D) (by simp only [length_append,length_cons,length_nil,zd] at *<;>omega)) (by kernel_rfl)) (Ai (idx_row (C:=cfg) (nxt:=2) (t:=22) (ty:=ty22) (te:=zR) (e:=25) (o:=0) (len:=yq.length) (sz:=2) (cap:=none) (i:=w64 ((yq.length:Int) - 1)) (by kernel_rfl) rfl (by kernel_rfl) rfl (by simp only [length_append,length_cons,length_nil,zd] at *<;>omega) (by simp only [length_append,length_cons,length_nil,zd] at *<;>omega)) (Ai h25 (Ai p3 (Ai p2 (Ai h24 (Ai p1 (Ai h23 (Ai (zk Sn.D yF) (Ai h22 (Ai (zk Sn.D yD) trivial))))))))))))) (by kernel_rfl) (by (simp only [sd20285,go_sem,length_set,Nat.reduceAdd,Nat.reduceEqDiff,Nat.reduceLT,Nat.reduceLeDiff,bI2,ze.idsL,ze.renL,ze.snapAll,z7.idsL,z7.renL,z7.snapAll])<;>rfl) (ih (yq.set ((w64 ((yq.length:Int) - 1)).toNat) (⟨(yq.getD ((w64 ((yq.length:Int) - 1)).toNat) default).lo,zN ((yq.getD ((w64 ((yq.length:Int) - 1)).toNat) default).hi) ((GS.at yD yx).hi)⟩:Sn)) (w64 (yx+1)) yB hf8 (by omega) (by omega) (by simp only [length_append,length_cons,length_nil,zd] at *<;>omega) (by omega) (by simp only [zv,zj,GS.some_l,length_set,length_append,length_cons,length_nil,zd] at *<;>first|assumption|omega)) (by kernel_rfl)
     |false =>
      have g25:=of_decide_eq_false h25
      intro hf8
      exact zz (ks:=[3,4,5,6,7]) (st':=(sd20286 yD yF yq yx yB)) ((r_Join_8a_f_o1 yD yF yx)++((r_Join_8a_f_o2 yq)++[.dec false,.op (some 105) ⟨.lsl 3 0 ((yq++[(GS.at yD yx)]).length) 2 none,[(0,none),(3,some ⟨(yq++[(GS.at yD yx)]).map Sn.D,2,false⟩)],[0,2],4⟩])) (Ai (app_row (f:=Sn.D) (te:=zR) (gO:=zw [(0,⟨yq.map Sn.D,2,false⟩),(1,⟨[.agg [I ((GS.at yD yx).lo),I ((GS.at yD yx).hi)]],2,false⟩),(2,⟨[.agg [I ((GS.at yD yx).lo),I ((GS.at yD yx).hi)]],2,false⟩)]) (nxt:=3) (o:=0) (o2:=2) (fz:=false) z7 yq (GS.at yD yx) (by kernel_rfl) (by kernel_rfl) rfl (by kernel_rfl) (by decide) ⟨by simp only [zR,big]<;>(first|assumption|omega|(exact zF (by omega) (by omega))|(exact zt (by omega))|(exact zm (by omega))|(exact zu (by omega))|(exact zn (by omega))|(exact zl _ (by omega))|(exact Nat.le_trans (hJl _) (by rw [zj];omega))|(simp only [zd] at *<;>omega)|(simp only [zv,zj,GS.some_l,length_set,length_append,length_cons,length_nil] at *<;>first|assumption|omega)|(simp only [zv,zj,GS.some_l,length_set,length_append,length_cons,length_nil,zd] at *<;>first|assumption|omega)|(simp at *<;>omega)),by simp only [big]<;>(first|assumption|omega|(exact zF (by omega) (by omega))|(exact zt (by omega))|(exact zm (by omega))|(exact zu (by omega))|(exact zn (by omega))|(exact zl _ (by omega))|(exact Nat.le_trans (hJl _) (by rw [zj];omega))|(simp only [zd] at *<;>omega)|(simp only [zv,zj,GS.some_l,length_set,length_append,length_cons,length_nil] at *<;>first|assumption|omega)|(simp only [zv,zj,GS.some_l,length_set,length_append,length_cons,length_nil,zd] at *<;>first|assumption|omega)|(simp at *<;>omega))⟩) (Ai h25 (Ai p3 (Ai p2 (Ai h24 (Ai p1 (Ai h23 (Ai (zk Sn.D yF) (Ai h22 (Ai (zk Sn.D yD) trivial)))))))))) (by kernel_rfl) (by (simp only [sd20286,go_sem,length_set,Nat.reduceAdd,Nat.reduceEqDiff,Nat.reduceLT,Nat.reduceLeDiff,bI2,ze.idsL,ze.renL,ze.snapAll,z7.idsL,z7.renL,z7.snapAll])<;>rfl) (ih (yq++[(GS.at yD yx)]) (w64 (yx+1)) yB hf8 (by omega) (by omega) (by simp only [length_append,length_cons,length_nil,zd] at *<;>omega) (by omega) (by simp only [length_append,length_cons,length_nil,zd] at *<;>omega)) (by kernel_rfl)
    |false =>
     have g24:=of_decide_eq_false h24
     intro hf8
     exact zz (ks:=[3,4,5,6,7]) (st':=(sd20287 yD yF yq yx yB)) ((r_Join_8a_f_o1 yD yF yx)++[.dec false,.op (some 105) ⟨.lsl 3 0 ((yq++[(GS.at yD yx)]).length) 2 none,[(0,none),(3,some ⟨(yq++[(GS.at yD yx)]).map Sn.D,2,false⟩)],[0,2],4⟩]) (Ai (app_row (f:=Sn.D) (te:=zR) (gO:=zw [(0,⟨yq.map Sn.D,2,false⟩),(1,⟨[.agg [I ((GS.at yD yx).lo),I ((GS.at yD yx).hi)]],2,false⟩),(2,⟨[.agg [I ((GS.at yD yx).lo),I ((GS.at yD yx).hi)]],2,false⟩)]) (nxt:=3) (o:=0) (o2:=2) (fz:=false) z7 yq (GS.at yD yx) (by kernel_rfl) (by kernel_rfl) rfl (by kernel_rfl) (by decide) ⟨by simp only [zR,big]<;>(first|assumption|omega|(exact zF (by omega) (by omega))|(exact zt (by omega))|(exact zm (by omega))|(exact zu (by omega))|(exact zn (by omega))|(exact zl _ (by omega))|(exact Nat.le_trans (hJl _) (by rw [zj];omega))|(simp only [zd] at *<;>omega)|(simp only [zv,zj,GS.some_l,length_set,length_append,length_cons,length_nil] at *<;>first|assumption|omega)|(simp only [zv,zj,GS.some_l,length_set,length_append,length_cons,length_nil,zd] at *<;>first|assumption|omega)|(simp at *<;>omega)),by simp only [big]<;>(first|assumption|omega|(exact zF (by omega) (by omega))|(exact zt (by omega))|(exact zm (by omega))|(exact zu (by omega))|(exact zn (by omega))|(exact zl _ (by omega))|(exact Nat.le_trans (hJl _) (by rw [zj];omega))|(simp only [zd] at *<;>omega)|(simp only [zv,zj,GS.some_l,length_set,length_append,length_cons,length_nil] at *<;>first|assumption|omega)|(simp only [zv,zj,GS.some_l,length_set,length_append,length_cons,length_nil,zd] at *<;>first|assumption|omega)|(simp at *<;>omega))⟩) (Ai h24 (Ai p1 (Ai h23 (Ai (zk Sn.D yF) (Ai h22 (Ai (zk Sn.D yD) trivial))))))) (by kernel_rfl) (by (simp only [sd20287,go_sem,length_set,Nat.reduceAdd,Nat.reduceEqDiff,Nat.reduceLT,Nat.reduceLeDiff,bI2,ze.idsL,ze.renL,ze.snapAll,z7.idsL,z7.renL,z7.snapAll])<;>rfl) (ih (yq++[(GS.at yD yx)]) (w64 (yx+1)) yB hf8 (by omega) (by omega) (by omega) (by omega) (by omega)) (by kernel_rfl)
   |false =>
    have g23:=ne_of_beq_false h23
    have p4:=(el_in (s:=yD) (f:=Sn.D) (k:=2) (i:=yx) (by omega) (by omega))
    have p5:=(el_in (s:=yF) (f:=Sn.D) (k:=2) (i:=yB) (by omega) (by omega))
    cases h26:decide (((GS.at yD yx).lo)≤((GS.at yF yB).lo)) with
    |true =>
     have g26:=of_decide_eq_true h26
     have p6:=(el_in (s:=yD) (f:=Sn.D) (k:=2) (i:=yx) (by omega) (by omega))
     cases h27:decide ((yq.length:Int)>0) with
     |true =>
      have g27:=of_decide_eq_true h27
      have p7:=(idx_row (C:=cfg) (nxt:=2) (t:=22) (ty:=ty22) (te:=zR) (e:=25) (o:=0) (len:=yq.length) (sz:=2) (cap:=none) (i:=w64 ((yq.length:Int) - 1)) (by kernel_rfl) rfl (by kernel_rfl) rfl (by simp only [length_append,length_cons,length_nil,zd] at *<;>omega) (by simp only [length_append,length_cons,length_nil,zd] at *<;>omega))
      have p8:=(load_row (C:=cfg) (objs:=[(0,⟨yq.map Sn.D,2,false⟩),(1,⟨[.agg [I ((GS.at yD yx).lo),I ((GS.at yD yx).hi)]],2,false⟩)]) (nxt:=2) (t:=3) (ty:=ty3) (o:=0) (n:=(w64 ((yq.length:Int) - 1)).toNat) (sz:=2) (sub:=1) (ob:=⟨yq.map Sn.D,2,false⟩) (e:=Sn.D (yq.getD ((w64 ((yq.length:Int) - 1)).toNat) default)) (d:=I ((yq.getD ((w64 ((yq.length:Int) - 1)).toNat) default).hi)) (by kernel_rfl) (by kernel_rfl) rfl (row_get (f:=Sn.D) (by simp only [length_append,length_cons,length_nil,zd] at *<;>omega)) (by kernel_rfl))
      cases h28:decide (((GS.at yD yx).lo)≤(w64 (((yq.getD ((w64 ((yq.length:Int) - 1)).toNat) default).hi)+1))) with
      |true =>
       have g28:=of_decide_eq_true h28
       intro hf8
       exact zz (ks:=[3,4,5,6,7]) (st':=(sd20288 yD yF yq yx yB)) ((r_Join_8a_f_o3 yD yF yx yB)++((r_Join_8a_f_o4 yD yq yx)++[.dec true,.op (some 94) ⟨.lref 0 ((w64 ((yq.length:Int) - 1)).toNat) 2 0,[],[],2⟩,.op (some 96) ⟨I ((yq.getD ((w64 ((yq.length:Int) - 1)).toNat) default).hi),[],[0],2⟩,.op (some 100) ⟨.lref 0 ((w64 ((yq.length:Int) - 1)).toNat) 2 0,[],[],2⟩,.stS 0 ⟨.tup [],[(0,some ⟨(yq.set ((w64 ((yq.length:Int) - 1)).toNat) (⟨(yq.getD ((w64 ((yq.length:Int) - 1)).toNat) default).lo,zN ((yq.getD ((w64 ((yq.length:Int) - 1)).toNat) default).hi) ((GS.at yD yx).hi)⟩:Sn)).map Sn.D,2,false⟩)],[0],2⟩])) (Ai (store_row (C:=cfg) (objs:=[(0,⟨yq.map Sn.D,2,false⟩),(1,⟨[.agg [I ((GS.at yD yx).lo),I ((GS.at yD yx).hi)]],2,false⟩)]) (nxt:=2) (t:=3) (ty:=ty3) (o:=0) (n:=(w64 ((yq.length:Int) - 1)).toNat) (sz:=2) (sub:=1) (els:=yq.map Sn.D) (els':=(yq.set ((w64 ((yq.length:Int) - 1)).toNat) (⟨(yq.getD ((w64 ((yq.length:Int) - 1)).toNat) default).lo,zN ((yq.getD ((w64 ((yq.length:Int) - 1)).toNat) default).hi) ((GS.at yD yx).hi)⟩:Sn)).map Sn.D) (e:=Sn.D (yq.getD ((w64 ((yq.length:Int) - 1)).toNat) default)) (e':=Sn.D (⟨(yq.getD ((w64 ((yq.length:Int) - 1)).toNat) default).lo,zN ((yq.getD ((w64 ((yq.length:Int) - 1)).toNat) default).hi) ((GS.at yD yx).hi)⟩:Sn)) (v:=I (zN ((yq.getD ((w64 ((yq.length:Int) - 1)).toNat) default).hi) ((GS.at yD yx).hi))) (by kernel_rfl) (by kernel_rfl) (row_get (f:=Sn.D) (by simp only [length_append,length_cons,length_nil,zd] at *<;>omega)) rfl (by kernel_rfl) rfl (by kernel_rfl) (row_set (f:=Sn.D))) (Ai (idx_row (C:=cfg) (nxt:=2) (t:=22) (ty:=ty22) (te:=zR) (e:=25) (o:=0) (len:=yq.length) (sz:=2) (cap:=none) (i:=w64 ((yq.length:Int) - 1)) (by kernel_rfl) rfl (by kernel_rfl) rfl (by simp only [length_append,length_cons,length_nil,zd] at *<;>omega) (by simp only [length_append,length_cons,length_nil,zd] at *<;>omega)) (Ai (load_row (C:=cfg) (objs:=[(0,⟨yq.map Sn.D,2,false⟩),(1,⟨[.agg [I ((GS.at yD yx).lo),I ((GS.at yD yx).hi)]],2,false⟩)]) (nxt:=2) (t:=3) (ty:=ty3) (o:=0) (n:=(w64 ((yq.length:Int) - 1)).toNat) (sz:=2) (sub:=1) (ob:=⟨yq.map Sn.D,2,false⟩) (e:=Sn.D (yq.getD ((w64 ((yq.length:Int) - 1)).toNat) default)) (d:=I ((yq.getD ((w64 ((yq.length:Int) - 1)).toNat) default).hi)) (by kernel_rfl) (by kernel_rfl) rfl (row_get (f:=Sn.D) (by simp only [length_append,length_cons,length_nil,zd] at *<;>omega)) (by kernel_rfl)) (Ai (idx_row (C:=cfg) (nxt:=2) (t:=22) (ty:=ty22) (te:=zR) (e:=25) (o:=0) (len:=yq.length) (sz:=2) (cap:=none) (i:=w64 ((yq.length:Int) - 1)) (by kernel_rfl) rfl (by kernel_rfl) rfl (by simp only [length_append,length_cons,length_nil,zd] at *<;>omega) (by simp only [length_append,length_cons,length_nil,zd] at *<;>omega)) (Ai h28 (Ai p8 (Ai p7 (Ai h27 (Ai p6 (Ai h26 (Ai p5 (Ai p4 (Ai h22 (Ai (zk Sn.D yD) (Ai h23 (Ai (zk Sn.D yF) (Ai h22 (Ai (zk Sn.D yD) trivial)))))))))))))))))) (by kernel_rfl) (by (simp only [sd20288,go_sem,length_set,Nat.reduceAdd,Nat.reduceEqDiff,Nat.reduceLT,Nat.reduceLeDiff,bI2,ze.idsL,ze.renL,ze.snapAll,z7.idsL,z7.renL,z7.snapAll])<;>rfl) (ih (yq.set ((w64 ((yq.length:Int) - 1)).toNat) (⟨(yq.getD ((w64 ((yq.length:Int) - 1)).toNat) default).lo,zN ((yq.getD ((w64 ((yq.length:Int) - 1)).toNat) default).hi) ((GS.at yD yx).hi)⟩:Sn)) (w64 (yx+1)) yB hf8 (by omega) (by omega) (by simp only [length_append,length_cons,length_nil,zd] at *<;>omega) (by omega) (by simp only [zv,zj,GS.some_l,length_set,length_append,length_cons,length_nil,zd] at *<;>first|assumption|omega)) (by kernel_rfl)
      |false =>
       have g28:=of_decide_eq_false h28
       intro hf8
       exact zz (ks:=[3,4,5,6,7]) (st':=(sd20289 yD yF yq yx yB)) ((r_Join_8a_f_o3 yD yF yx yB)++((r_Join_8a_f_o4 yD yq yx)++[.dec false,.op (some 105) ⟨.lsl 3 0 ((yq++[(GS.at yD yx)]).length) 2 none,[(0,none),(3,some ⟨(yq++[(GS.at yD yx)]).map Sn.D,2,false⟩)],[0,2],4⟩])) (Ai (app_row (f:=Sn.D) (te:=zR) (gO:=zw [(0,⟨yq.map Sn.D,2,false⟩),(1,⟨[.agg [I ((GS.at yD yx).lo),I ((GS.at yD yx).hi)]],2,false⟩),(2,⟨[.agg [I ((GS.at yD yx).lo),I ((GS.at yD yx).hi)]],2,false⟩)]) (nxt:=3) (o:=0) (o2:=2) (fz:=false) z7 yq (GS.at yD yx) (by kernel_rfl) (by kernel_rfl) rfl (by kernel_rfl) (by decide) ⟨by simp only [zR,big]<;>(first|assumption|omega|(exact zF (by omega) (by omega))|(exact zt (by omega))|(exact zm (by omega))|(exact zu (by omega))|(exact zn (by omega))|(exact zl _ (by omega))|(exact Nat.le_trans (hJl _) (by rw [zj];omega))|(simp only [zd] at *<;>omega)|(simp only [zv,zj,GS.some_l,length_set,length_append,length_cons,length_nil] at *<;>first|assumption|omega)|(simp only [zv,zj,GS.some_l,length_set,length_append,length_cons,length_nil,zd] at *<;>first|assumption|omega)|(simp at *<;>omega)),by simp only [big]<;>(first|assumption|omega|(exact zF (by omega) (by omega))|(exact zt (by omega))|(exact zm (by omega))|(exact zu (by omega))|(exact zn (by omega))|(exact zl _ (by omega))|(exact Nat.le_trans (hJl _) (by rw [zj];omega))|(simp only [zd] at *<;>omega)|(simp only [zv,zj,GS.some_l,length_set,length_append,length_cons,length_nil] at *<;>first|assumption|omega)|(simp only [zv,zj,GS.some_l,length_set,length_append,length_cons,length_nil,zd] at *<;>first|assumption|omega)|(simp at *<;>omega))⟩) (Ai h28 (Ai p8 (Ai p7 (Ai h27 (Ai p6 (Ai h26 (Ai p5 (Ai p4 (Ai h22 (Ai (zk Sn.D yD) (Ai h23 (Ai (zk Sn.D yF) (Ai h22 (Ai (zk Sn.D yD) trivial))))))))))))))) (by kernel_rfl) (by (simp only [sd20289,go_sem,length_set,Nat.reduceAdd,Nat.reduceEqDiff,Nat.reduceLT,Nat.reduceLeDiff,bI2,ze.idsL,ze.renL,ze.snapAll,z7.idsL,z7.renL,z7.snapAll])<;>rfl) (ih (yq++[(GS.at yD yx)]) (w64 (yx+1)) yB hf8 (by omega) (by omega) (by simp only [length_append,length_cons,length_nil,zd] at *<;>omega) (by omega) (by simp only [length_append,length_cons,length_nil,zd] at *<;>omega)) (by kernel_rfl)
     |false =>
      have g27:=of_decide_eq_false h27
      intro hf8
      exact zz (ks:=[3,4,5,6,7]) (st':=(sd20290 yD yF yq yx yB)) ((r_Join_8a_f_o3 yD yF yx yB)++[.dec true,.el (.agg [I ((GS.at yD yx).lo),I ((GS.at yD yx).hi)]),.dec false,.op (some 105) ⟨.lsl 3 0 ((yq++[(GS.at yD yx)]).length) 2 none,[(0,none),(3,some ⟨(yq++[(GS.at yD yx)]).map Sn.D,2,false⟩)],[0,2],4⟩]) (Ai (app_row (f:=Sn.D) (te:=zR) (gO:=zw [(0,⟨yq.map Sn.D,2,false⟩),(1,⟨[.agg [I ((GS.at yD yx).lo),I ((GS.at yD yx).hi)]],2,false⟩),(2,⟨[.agg [I ((GS.at yD yx).lo),I ((GS.at yD yx).hi)]],2,false⟩)]) (nxt:=3) (o:=0) (o2:=2) (fz:=false) z7 yq (GS.at yD yx) (by kernel_rfl) (by kernel_rfl) rfl (by kernel_rfl) (by decide) ⟨by simp only [zR,big]<;>(first|assumption|omega|(exact zF (by omega) (by omega))|(exact zt (by omega))|(exact zm (by omega))|(exact zu (by omega))|(exact zn (by omega))|(exact zl _ (by omega))|(exact Nat.le_trans (hJl _) (by rw [zj];omega))|(simp only [zd] at *<;>omega)|(simp only [zv,zj,GS.some_l,length_set,length_append,length_cons,length_nil] at *<;>first|assumption|omega)|(simp only [zv,zj,GS.some_l,length_set,length_append,length_cons,length_nil,zd] at *<;>first|assumption|omega)|(simp at *<;>omega)),by simp only [big]<;>(first|assumption|omega|(exact zF (by omega) (by omega))|(exact zt (by omega))|(exact zm (by omega))|(exact zu (by omega))|(exact zn (by omega))|(exact zl _ (by omega))|(exact Nat.le_trans (hJl _) (by rw [zj];omega))|(simp only [zd] at *<;>omega)|(simp only [zv,zj,GS.some_l,length_set,length_append,length_cons,length_nil] at *<;>first|assumption|omega)|(simp only [zv,zj,GS.some_l,length_set,length_append,length_cons,length_nil,zd] at *<;>first|assumption|omega)|(simp at *<;>omega))⟩) (Ai h27 (Ai p6 (Ai h26 (Ai p5 (Ai p4 (Ai h22 (Ai (zk Sn.D yD) (Ai h23 (Ai (zk Sn.D yF) (Ai h22 (Ai (zk Sn.D yD) trivial)))))))))))) (by kernel_rfl) (by (simp only [sd20290,go_sem,length_set,Nat.reduceAdd,Nat.reduceEqDiff,Nat.reduceLT,Nat.reduceLeDiff,bI2,ze.idsL,ze.renL,ze.snapAll,z7.idsL,z7.renL,z7.snapAll])<;>rfl) (ih (yq++[(GS.at yD yx)]) (w64 (yx+1)) yB hf8 (by omega) (by omega) (by omega) (by omega) (by omega)) (by kernel_rfl)
    |false =>
     have g26:=of_decide_eq_false h26
     have p9:=(el_in (s:=yF) (f:=Sn.D) (k:=2) (i:=yB) (by omega) (by omega))
     cases h29:decide ((yq.length:Int)>0) with
     |true =>
      have g29:=of_decide_eq_true h29
      have p10:=(idx_row (C:=cfg) (nxt:=2) (t:=22) (ty:=ty22) (te:=zR) (e:=25) (o:=0) (len:=yq.length) (sz:=2) (cap:=none) (i:=w64 ((yq.length:Int) - 1)) (by kernel_rfl) rfl (by kernel_rfl) rfl (by simp only [length_append,length_cons,length_nil,zd] at *<;>omega) (by simp only [length_append,length_cons,length_nil,zd] at *<;>omega))
      have p11:=(load_row (C:=cfg) (objs:=[(0,⟨yq.map Sn.D,2,false⟩),(1,⟨[.agg [I ((GS.at yF yB).lo),I ((GS.at yF yB).hi)]],2,false⟩)]) (nxt:=2) (t:=3) (ty:=ty3) (o:=0) (n:=(w64 ((yq.length:Int) - 1)).toNat) (sz:=2) (sub:=1) (ob:=⟨yq.map Sn.D,2,false⟩) (e:=Sn.D (yq.getD ((w64 ((yq.length:Int) - 1)).toNat) default)) (d:=I ((yq.getD ((w64 ((yq.length:Int) - 1)).toNat) default).hi)) (by kernel_rfl) (by kernel_rfl) rfl (row_get (f:=Sn.D) (by simp only [length_append,length_cons,length_nil,zd] at *<;>omega)) (by kernel_rfl))
      cases h30:decide (((GS.at yF yB).lo)≤(w64 (((yq.getD ((w64 ((yq.length:Int) - 1)).toNat) default).hi)+1))) with
      |true =>
       have g30:=of_decide_eq_true h30
       intro hf8
       exact zz (ks:=[3,4,5,6,7]) (st':=(sd20291 yD yF yq yx yB)) ((r_Join_8a_f_o3 yD yF yx yB)++((r_Join_8a_f_o5 yF yq yB)++[.dec true,.op (some 94) ⟨.lref 0 ((w64 ((yq.length:Int) - 1)).toNat) 2 0,[],[],2⟩,.op (some 96) ⟨I ((yq.getD ((w64 ((yq.length:Int) - 1)).toNat) default).hi),[],[0],2⟩,.op (some 100) ⟨.lref 0 ((w64 ((yq.length:Int) - 1)).toNat) 2 0,[],[],2⟩,.stS 0 ⟨.tup [],[(0,some ⟨(yq.set ((w64 ((yq.length:Int) - 1)).toNat) (⟨(yq.getD ((w64 ((yq.length:Int) - 1)).toNat) default).lo,zN ((yq.getD ((w64 ((yq.length:Int) - 1)).toNat) default).hi) ((GS.at yF yB).hi)⟩:Sn)).map Sn.D,2,false⟩)],[0],2⟩])) (Ai (store_row (C:=cfg) (objs:=[(0,⟨yq.map Sn.D,2,false⟩),(1,⟨[.agg [I ((GS.at yF yB).lo),I ((GS.at yF yB).hi)]],2,false⟩)]) (nxt:=2) (t:=3) (ty:=ty3) (o:=0) (n:=(w64 ((yq.length:Int) - 1)).toNat) (sz:=2) (sub:=1) (els:=yq.map Sn.D) (els':=(yq.set ((w64 ((yq.length:Int) - 1)).toNat) (⟨(yq.getD ((w64 ((yq.length:Int) - 1)).toNat) default).lo,zN ((yq.getD ((w64 ((yq.length:Int) - 1)).toNat) default).hi) ((GS.at yF yB).hi)⟩:Sn)).map Sn.D) (e:=Sn.D (yq.getD ((w64 ((yq.length:Int) - 1)).toNat) default)) (e':=Sn.D (⟨(yq.getD ((w64 ((yq.length:Int) - 1)).toNat) default).lo,zN ((yq.getD ((w64 ((yq.length:Int) - 1)).toNat) default).hi) ((GS.at yF yB).hi)⟩:Sn)) (v:=I (zN ((yq.getD ((w64 ((yq.length:Int) - 1)).toNat) default).hi) ((GS.at yF yB).hi))) (by kernel_rfl) (by kernel_rfl) (row_get (f:=Sn.D) (by simp only [length_append,length_cons,length_nil,zd] at *<;>omega)) rfl (by kernel_rfl) rfl (by kernel_rfl) (row_set (f:=Sn.D))) (Ai (idx_row (C:=cfg) (nxt:=2) (t:=22) (ty:=ty22) (te:=zR) (e:=25) (o:=0) (len:=yq.length) (sz:=2) (cap:=none) (i:=w64 ((yq.length:Int) - 1)) (by kernel_rfl) rfl (by kernel_rfl) rfl (by simp only [length_append,length_cons,length_nil,zd] at *<;>omega) (by simp only [length_append,length_cons,length_nil,zd] at *<;>omega)) (Ai (load_row (C:=cfg) (objs:=[(0,⟨yq.map Sn.D,2,false⟩),(1,⟨[.agg [I ((GS.at yF yB).lo),I ((GS.at yF yB).hi)]],2,false⟩)]) (nxt:=2) (t:=3) (ty:=ty3) (o:=0) (n:=(w64 ((yq.length:Int) - 1)).toNat) (sz:=2) (sub:=1) (ob:=⟨yq.map Sn.D,2,false⟩) (e:=Sn.D (yq.getD ((w64 ((yq.length:Int) - 1)).toNat) default)) (d:=I ((yq.getD ((w64 ((yq.length:Int) - 1)).toNat) default).hi)) (by kernel_rfl) (by kernel_rfl) rfl (row_get (f:=Sn.D) (by simp only [length_append,length_cons,length_nil,zd] at *<;>omega)) (by kernel_rfl)) (Ai (idx_row (C:=cfg) (nxt:=2) (t:=22) (ty:=ty22) (te:=zR) (e:=25) (o:=0) (len:=yq.length) (sz:=2) (cap:=none) (i:=w64 ((yq.length:Int) - 1)) (by kernel_rfl) rfl (by kernel_rfl) rfl (by simp only [length_append,length_cons,length_nil,zd] at *<;>omega) (by simp only [length_append,length_cons,length_nil,zd] at *<;>omega)) (Ai h30 (Ai p11 (Ai p10 (Ai h29 (Ai p9 (Ai h26 (Ai p5 (Ai p4 (Ai h22 (Ai (zk Sn.D yD) (Ai h23 (Ai (zk Sn.D yF) (Ai h22 (Ai (zk Sn.D yD) trivial)))))))))))))))))) (by kernel_rfl) (by (simp only [sd20291,go_sem,length_set,Nat.reduceAdd,Nat.reduceEqDiff,Nat.reduceLT,Nat.reduceLeDiff,bI2,ze.idsL,ze.renL,ze.snapAll,z7.idsL,z7.renL,z7.snapAll])<;>rfl) (ih (yq.set ((w64 ((yq.length:Int) - 1)).toNat) (⟨(yq.getD ((w64 ((yq.length:Int) - 1)).toNat) default).lo,zN ((yq.getD ((w64 ((yq.length:Int) - 1)).toNat) default).hi) ((GS.at yF yB).hi)⟩:Sn)) yx (w64 (yB+1)) hf8 (by omega) (by omega) (by omega) (by simp only [length_append,length_cons,length_nil,zd] at *<;>omega) (by simp only [zv,zj,GS.some_l,length_set,length_append,length_cons,length_nil,zd] at *<;>first|assumption|omega)) (by kernel_rfl)
      |false =>
       have g30:=of_decide_eq_false h30
       intro hf8
       exact zz (ks:=[3,4,5,6,7]) (st':=(sd20292 yD yF yq yx yB)) ((r_Join_8a_f_o3 yD yF yx yB)++((r_Join_8a_f_o5 yF yq yB)++[.dec false,.op (some 105) ⟨.lsl 3 0 ((yq++[(GS.at yF yB)]).length) 2 none,[(0,none),(3,some ⟨(yq++[(GS.at yF yB)]).map Sn.D,2,false⟩)],[0,2],4⟩])) (Ai (app_row (f:=Sn.D) (te:=zR) (gO:=zw [(0,⟨yq.map Sn.D,2,false⟩),(1,⟨[.agg [I ((GS.at yF yB).lo),I ((GS.at yF yB).hi)]],2,false⟩),(2,⟨[.agg [I ((GS.at yF yB).lo),I ((GS.at yF yB).hi)]],2,false⟩)]) (nxt:=3) (o:=0) (o2:=2) (fz:=false) z7 yq (GS.at yF yB) (by kernel_rfl) (by kernel_rfl) rfl (by kernel_rfl) (by decide) ⟨by simp only [zR,big]<;>(first|assumption|omega|(exact zF (by omega) (by omega))|(exact zt (by omega))|(exact zm (by omega))|(exact zu (by omega))|(exact zn (by omega))|(exact zl _ (by omega))|(exact Nat.le_trans (hJl _) (by rw [zj];omega))|(simp only [zd] at *<;>omega)|(simp only [zv,zj,GS.some_l,length_set,length_append,length_cons,length_nil] at *<;>first|assumption|omega)|(simp only [zv,zj,GS.some_l,length_set,length_append,length_cons,length_nil,zd] at *<;>first|assumption|omega)|(simp at *<;>omega)),by simp only [big]<;>(first|assumption|omega|(exact zF (by omega) (by omega))|(exact zt (by omega))|(exact zm (by omega))|(exact zu (by omega))|(exact zn (by omega))|(exact zl _ (by omega))|(exact Nat.le_trans (hJl _) (by rw [zj];omega))|(simp only [zd] at *<;>omega)|(simp only [zv,zj,GS.some_l,length_set,length_append,length_cons,length_nil] at *<;>first|assumption|omega)|(simp only [zv,zj,GS.some_l,length_set,length_append,length_cons,length_nil,zd] at *<;>first|assumption|omega)|(simp at *<;>omega))⟩) (Ai h30 (Ai p11 (Ai p10 (Ai h29 (Ai p9 (Ai h26 (Ai p5 (Ai p4 (Ai h22 (Ai (zk Sn.D yD) (Ai h23 (Ai (zk Sn.D yF) (Ai h22 (Ai (zk Sn.D yD) trivial))))))))))))))) (by kernel_rfl) (by (simp only [sd20292,go_sem,length_set,Nat.reduceAdd,Nat.reduceEqDiff,Nat.reduceLT,Nat.reduceLeDiff,bI2,ze.idsL,ze.renL,ze.snapAll,z7.idsL,z7.renL,z7.snapAll])<;>rfl) (ih (yq++[(GS.at yF yB)]) yx (w64 (yB+1)) hf8 (by omega) (by omega) (by omega) (by simp only [length_append,length_cons,length_nil,zd] at *<;>omega) (by simp only [length_append,length_cons,length_nil,zd] at *<;>omega)) (by kernel_rfl)
     |false =>
      have g29:=of_decide_eq_false h29
      intro hf8
      exact zz (ks:=[3,4,5,6,7]) (st':=(sd20293 yD yF yq yx yB)) ((r_Join_8a_f_o3 yD yF yx yB)++[.dec false,.el (.agg [I ((GS.at yF yB).lo),I ((GS.at yF yB).hi)]),.dec false,.op (some 105) ⟨.lsl 3 0 ((yq++[(GS.at yF yB)]).length) 2 none,[(0,none),(3,some ⟨(yq++[(GS.at yF yB)]).map Sn.D,2,false⟩)],[0,2],4⟩]) (Ai (app_row (f:=Sn.D) (te:=zR) (gO:=zw [(0,⟨yq.map Sn.D,2,false⟩),(1,⟨[.agg [I ((GS.at yF yB).lo),I ((GS.at yF yB).hi)]],2,false⟩),(2,⟨[.agg [I ((GS.at yF yB).lo),I ((GS.at yF yB).hi)]],2,false⟩)]) (nxt:=3) (o:=0) (o2:=2) (fz:=false) z7 yq (GS.at yF yB) (by kernel_rfl) (by kernel_rfl) rfl (by kernel_rfl) (by decide) ⟨by simp only [zR,big]<;>(first|assumption|omega|(exact zF (by omega) (by omega))|(exact zt (by omega))|(exact zm (by omega))|(exact zu (by omega))|(exact zn (by omega))|(exact zl _ (by omega))|(exact Nat.le_trans (hJl _) (by rw [zj];omega))|(simp only [zd] at *<;>omega)|(simp only [zv,zj,GS.some_l,length_set,length_append,length_cons,length_nil] at *<;>first|assumption|omega)|(simp only [zv,zj,GS.some_l,length_set,length_append,length_cons,length_nil,zd] at *<;>first|assumption|omega)|(simp at *<;>omega)),by simp only [big]<;>(first|assumption|omega|(exact zF (by omega) (by omega))|(exact zt (by omega))|(exact zm (by omega))|(exact zu (by omega))|(exact zn (by omega))|(exact zl _ (by omega))|(exact Nat.le_trans (hJl _) (by rw [zj];omega))|(simp only [zd] at *<;>omega)|(simp only [zv,zj,GS.some_l,length_set,length_append,length_cons,length_nil] at *<;>first|assumption|omega)|(simp only [zv,zj,GS.some_l,length_set,length_append,length_cons,length_nil,zd] at *<;>first|assumption|omega)|(simp at *<;>omega))⟩) (Ai h29 (Ai p9 (Ai h26 (Ai p5 (Ai p4 (Ai h22 (Ai (zk Sn.D yD) (Ai h23 (Ai (zk Sn.D yF) (Ai h22 (Ai (zk Sn.D yD) trivial)))))))))))) (by kernel_rfl) (by (simp only [sd20293,go_sem,length_set,Nat.reduceAdd,Nat.reduceEqDiff,Nat.reduceLT,Nat.reduceLeDiff,bI2,ze.idsL,ze.renL,ze.snapAll,z7.idsL,z7.renL,z7.snapAll])<;>rfl) (ih (yq++[(GS.at yF yB)]) yx (w64 (yB+1)) hf8 (by omega) (by omega) (by omega) (by omega) (by omega)) (by kernel_rfl)
  |false =>
   have g22:=of_decide_eq_false h22
   cases h31:decide (yB < (yF.l.length:Int)) with
   |true =>
    have g31:=of_decide_eq_true h31
    cases h32:(yB == (yF.l.length:Int)) with
    |true =>
     have g32:=eq_of_beq h32
     have p12:=(el_in (s:=yD) (f:=Sn.D) (k:=2) (i:=yx) (by omega) (by omega))
     cases h33:decide ((yq.length:Int)>0) with
     |true =>
      have g33:=of_decide_eq_true h33
      have p13:=(idx_row (C:=cfg) (nxt:=2) (t:=22) (ty:=ty22) (te:=zR) (e:=25) (o:=0) (len:=yq.length) (sz:=2) (cap:=none) (i:=w64 ((yq.length:Int) - 1)) (by kernel_rfl) rfl (by kernel_rfl) rfl (by omega) (by omega))
      have p14:=(load_row (C:=cfg) (objs:=[(0,⟨yq.map Sn.D,2,false⟩),(1,⟨[.agg [I ((GS.at yD yx).lo),I ((GS.at yD yx).hi)]],2,false⟩)]) (nxt:=2) (t:=3) (ty:=ty3) (o:=0) (n:=(w64 ((yq.length:Int) - 1)).toNat) (sz:=2) (sub:=1) (ob:=⟨yq.map Sn.D,2,false⟩) (e:=Sn.D (yq.getD ((w64 ((yq.length:Int) - 1)).toNat) default)) (d:=I ((yq.getD ((w64 ((yq.length:Int) - 1)).toNat) default).hi)) (by kernel_rfl) (by kernel_rfl) rfl (row_get (f:=Sn.D) (by omega)) (by kernel_rfl))
      cases h34:decide (((GS.at yD yx).lo)≤(w64 (((yq.getD ((w64 ((yq.length:Int) - 1)).toNat) default).hi)+1))) with
      |true =>
       have g34:=of_decide_eq_true h34
       intro hf8
       exact zz (ks:=[3,4,5,6,7]) (st':=(sd20294 yD yF yq yx yB)) ((r_Join_8a_f_o6 yD yF)++((r_Join_8a_f_o7 yD yq yx)++[.dec true,.op (some 94) ⟨.lref 0 ((w64 ((yq.length:Int) - 1)).toNat) 2 0,[],[],2⟩,.op (some 96) ⟨I ((yq.getD ((w64 ((yq.length:Int) - 1)).toNat) default).hi),[],[0],2⟩,.op (some 100) ⟨.lref 0 ((w64 ((yq.length:Int) - 1)).toNat) 2 0,[],[],2⟩,.stS 0 ⟨.tup [],[(0,some ⟨(yq.set ((w64 ((yq.length:Int) - 1)).toNat) (⟨(yq.getD ((w64 ((yq.length:Int) - 1)).toNat) default).lo,zN ((yq.getD ((w64 ((yq.length:Int) - 1)).toNat) default).hi) ((GS.at yD yx).hi)⟩:Sn)).map Sn.D,2,false⟩)],[0],2⟩])) (Ai (store_row (C:=cfg) (objs:=[(0,⟨yq.map Sn.D,2,false⟩),(1,⟨[.agg [I ((GS.at yD yx).lo),I ((GS.at yD yx).hi)]],2,false⟩)]) (nxt:=2) (t:=3) (ty:=ty3) (o:=0) (n:=(w64 ((yq.length:Int) - 1)).toNat) (sz:=2) (sub:=1) (els:=yq.map Sn.D) (els':=(yq.set ((w64 ((yq.length:Int) - 1)).toNat) (⟨(yq.getD ((w64 ((yq.length:Int) - 1)).toNat) default).lo,zN ((yq.getD ((w64 ((yq.length:Int) - 1)).toNat) default).hi) ((GS.at yD yx).hi)⟩:Sn)).map Sn.D) (e:=Sn.D (yq.getD ((w64 ((yq.length:Int) - 1)).toNat) default)) (e':=Sn.D (⟨(yq.getD ((w64 ((yq.length:Int) - 1)).toNat) default).lo,zN ((yq.getD ((w64 ((yq.length:Int) - 1)).toNat) default).hi) ((GS.at yD yx).hi)⟩:Sn)) (v:=I (zN ((yq.getD ((w64 ((yq.length:Int) - 1)).toNat) default).hi) ((GS.at yD yx).hi))) (by kernel_rfl) (by kernel_rfl) (row_get (f:=Sn.D) (by omega)) rfl (by kernel_rfl) rfl (by kernel_rfl) (row_set (f:=Sn.D))) (Ai (idx_row (C:=cfg) (nxt:=2) (t:=22) (ty:=ty22) (te:=zR) (e:=25) (o:=0) (len:=yq.length) (sz:=2) (cap:=none) (i:=w64 ((yq.length:Int) - 1)) (by kernel_rfl) rfl (by kernel_rfl) rfl (by omega) (by omega)) (Ai (load_row (C:=cfg) (objs:=[(0,⟨yq.map Sn.D,2,false⟩),(1,⟨[.agg [I ((GS.at yD yx).lo),I ((GS.at yD yx).hi)]],2,false⟩)]) (nxt:=2) (t:=3) (ty:=ty3) (o:=0) (n:=(w64 ((yq.length:Int) - 1)).toNat) (sz:=2) (sub:=1) (ob:=⟨yq.map Sn.D,2,false⟩) (e:=Sn.D (yq.getD ((w64 ((yq.length:Int) - 1)).toNat) default)) (d:=I ((yq.getD ((w64 ((yq.length:Int) - 1)).toNat) default).hi)) (by kernel_rfl) (by kernel_rfl) rfl (row_get (f:=Sn.D) (by omega)) (by kernel_rfl)) (Ai (idx_row (C:=cfg) (nxt:=2) (t:=22) (ty:=ty22) (te:=zR) (e:=25) (o:=0) (len:=yq.length) (sz:=2) (cap:=none) (i:=w64 ((yq.length:Int) - 1)) (by kernel_rfl) rfl (by kernel_rfl) rfl (by omega) (by omega)) (Ai h34 (Ai p14 (Ai p13 (Ai h33 (Ai p12 (Ai h32 (Ai (zk Sn.D yF) (Ai h31 (Ai (zk Sn.D yF) (Ai h22 (Ai (zk Sn.D yD) trivial))))))))))))))) (by kernel_rfl) (by (simp only [sd20294,go_sem,length_set,Nat.reduceAdd,Nat.reduceEqDiff,Nat.reduceLT,Nat.reduceLeDiff,bI2,ze.idsL,ze.renL,ze.snapAll,z7.idsL,z7.renL,z7.snapAll])<;>rfl) (ih (yq.set ((w64 ((yq.length:Int) - 1)).toNat) (⟨(yq.getD ((w64 ((yq.length:Int) - 1)).toNat) default).lo,zN ((yq.getD ((w64 ((yq.length:Int) - 1)).toNat) default).hi) ((GS.at yD yx).hi)⟩:Sn)) (w64 (yx+1)) yB hf8 (by omega) (by omega) (by omega) (by omega) (by omega)) (by kernel_rfl)
      |false =>
       have g34:=of_decide_eq_false h34
       intro hf8
       exact zz (ks:=[3,4,5,6,7]) (st':=(sd20295 yD yF yq yx yB)) ((r_Join_8a_f_o6 yD yF)++((r_Join_8a_f_o7 yD yq yx)++[.dec false,.op (some 105) ⟨.lsl 3 0 ((yq++[(GS.at yD yx)]).length) 2 none,[(0,none),(3,some ⟨(yq++[(GS.at yD yx)]).map Sn.D,2,false⟩)],[0,2],4⟩])) (Ai (app_row (f:=Sn.D) (te:=zR) (gO:=zw [(0,⟨yq.map Sn.D,2,false⟩),(1,⟨[.agg [I ((GS.at yD yx).lo),I ((GS.at yD yx).hi)]],2,false⟩),(2,⟨[.agg [I ((GS.at yD yx).lo),I ((GS.at yD yx).hi)]],2,false⟩)]) (nxt:=3) (o:=0) (o2:=2) (fz:=false) z7 yq (GS.at yD yx) (by kernel_rfl) (by kernel_rfl) rfl (by kernel_rfl) (by decide) ⟨by simp only [zR,big]<;>(first|assumption|omega|(exact zF (by omega) (by omega))|(exact zt (by omega))|(exact zm (by omega))|(exact zu (by omega))|(exact zn (by omega))|(exact zl _ (by omega))|(exact Nat.le_trans (hJl _) (by rw [zj];omega))|(simp only [zd] at *<;>omega)|(simp only [zv,zj,GS.some_l,length_set,length_append,length_cons,length_nil] at *<;>first|assumption|omega)|(simp only [zv,zj,GS.some_l,length_set,length_append,length_cons,length_nil,zd] at *<;>first|assumption|omega)|(simp at *<;>omega)),by simp only [big]<;>(first|assumption|omega|(exact zF (by omega) (by omega))|(exact zt (by omega))|(exact zm (by omega))|(exact zu (by omega))|(exact zn (by omega))|(exact zl _ (by omega))|(exact Nat.le_trans (hJl _) (by rw [zj];omega))|(simp only [zd] at *<;>omega)|(simp only [zv,zj,GS.some_l,length_set,length_append,length_cons,length_nil] at *<;>first|assumption|omega)|(simp only [zv,zj,GS.some_l,length_set,length_append,length_cons,length_nil,zd] at *<;>first|assumption|omega)|(simp at *<;>omega))⟩) (Ai h34 (Ai p14 (Ai p13 (Ai h33 (Ai p12 (Ai h32 (Ai (zk Sn.D yF) (Ai h31 (Ai (zk Sn.D yF) (Ai h22 (Ai (zk Sn.D yD) trivial)))))))))))) (by kernel_rfl) (by (simp only [sd20295,go_sem,length_set,Nat.reduceAdd,Nat.reduceEqDiff,Nat.reduceLT,Nat.reduceLeDiff,bI2,ze.idsL,ze.renL,ze.snapAll,z7.idsL,z7.renL,z7.snapAll])<;>rfl) (ih (yq++[(GS.at yD yx)]) (w64 (yx+1)) yB hf8 (by omega) (by omega) (by omega) (by omega) (by omega)) (by kernel_rfl)
     |false =>
      have g33:=of_decide_eq_false h33
      intro hf8
      exact zz (ks:=[3,4,5,6,7]) (st':=(sd20296 yD yF yq yx yB)) ((r_Join_8a_f_o6 yD yF)++[.dec true,.el (.agg [I ((GS.at yD yx).lo),I ((GS.at yD yx).hi)]),.dec false,.op (some 105) ⟨.lsl 3 0 ((yq++[(GS.at yD yx)]).length) 2 none,[(0,none),(3,some ⟨(yq++[(GS.at yD yx)]).map Sn.D,2,false⟩)],[0,2],4⟩]) (Ai (app_row (f:=Sn.D) (te:=zR) (gO:=zw [(0,⟨yq.map Sn.D,2,false⟩),(1,⟨[.agg [I ((GS.at yD yx).lo),I ((GS.at yD yx).hi)]],2,false⟩),(2,⟨[.agg [I ((GS.at yD yx).lo),I ((GS.at yD yx).hi)]],2,false⟩)]) (nxt:=3) (o:=0) (o2:=2) (fz:=false) z7 yq (GS.at yD yx) (by kernel_rfl) (by kernel_rfl) rfl (by kernel_rfl) (by decide) ⟨by simp only [zR,big]<;>(first|assumption|omega|(exact zF (by omega) (by omega))|(exact zt (by omega))|(exact zm (by omega))|(exact zu (by omega))|(exact zn (by omega))|(exact zl _ (by omega))|(exact Nat.le_trans (hJl _) (by rw [zj];omega))|(simp only [zd] at *<;>omega)|(simp only [zv,zj,GS.some_l,length_set,length_append,length_cons,length_nil] at *<;>first|assumption|omega)|(simp only [zv,zj,GS.some_l,length_set,length_append,length_cons,length_nil,zd] at *<;>first|assumption|omega)|(simp at *<;>omega)),by simp only [big]<;>(first|assumption|omega|(exact zF (by omega) (by omega))|(exact zt (by omega))|(exact zm (by omega))|(exact zu (by omega))|(exact zn (by omega))|(exact zl _ (by omega))|(exact Nat.le_trans (hJl _) (by rw [zj];omega))|(simp only [zd] at *<;>omega)|(simp only [zv,zj,GS.some_l,length_set,length_append,length_cons,length_nil] at *<;>first|assumption|omega)|(simp only [zv,zj,GS.some_l,length_set,length_append,length_cons,length_nil,zd] at *<;>first|assumption|omega)|(simp at *<;>omega))⟩) (Ai h33 (Ai p12 (Ai h32 (Ai (zk Sn.D yF) (Ai h31 (Ai (zk Sn.D yF) (Ai h22 (Ai (zk Sn.D yD) trivial))))))))) (by kernel_rfl) (by (simp only [sd20296,go_sem,length_set,Nat.reduceAdd,Nat.reduceEqDiff,Nat.reduceLT,Nat.reduceLeDiff,bI2,ze.idsL,ze.renL,ze.snapAll,z7.idsL,z7.renL,z7.snapAll])<;>rfl) (ih (yq++[(GS.at yD yx)]) (w64 (yx+1)) yB hf8 (by omega) (by omega) (by omega) (by omega) (by omega)) (by kernel_rfl)
    |false =>
     have g32:=ne_of_beq_false h32
     have p15:=(el_in (s:=yF) (f:=Sn.D) (k:=2) (i:=yB) (by omega) (by omega))
     cases h35:decide ((yq.length:Int)>0) with
     |true =>
      have g35:=of_decide_eq_true h35
      have p16:=(idx_row (C:=cfg) (nxt:=2) (t:=22) (ty:=ty22) (te:=zR) (e:=25) (o:=0) (len:=yq.length) (sz:=2) (cap:=none) (i:=w64 ((yq.length:Int) - 1)) (by kernel_rfl) rfl (by kernel_rfl) rfl (by simp only [length_append,length_cons,length_nil,zd] at *<;>omega) (by simp only [length_append,length_cons,length_nil,zd] at *<;>omega))
      have p17:=(load_row (C:=cfg) (objs:=[(0,⟨yq.map Sn.D,2,false⟩),(1,⟨[.agg [I ((GS.at yF yB).lo),I ((GS.at yF yB).hi)]],2,false⟩)]) (nxt:=2) (t:=3) (ty:=ty3) (o:=0) (n:=(w64 ((yq.length:Int) - 1)).toNat) (sz:=2) (sub:=1) (ob:=⟨yq.map Sn.D,2,false⟩) (e:=Sn.D (yq.getD ((w64 ((yq.length:Int) - 1)).toNat) default)) (d:=I ((yq.getD ((w64 ((yq.length:Int) - 1)).toNat) default).hi)) (by kernel_rfl) (by kernel_rfl) rfl (row_get (f:=Sn.D) (by simp only [length_append,length_cons,length_nil,zd] at *<;>omega)) (by kernel_rfl))
      cases h36:decide (((GS.at yF yB).lo)≤(w64 (((yq.getD ((w64 ((yq.length:Int) - 1)).toNat) default).hi)+1))) with
      |true =>
       have g36:=of_decide_eq_true h36
       intro hf8
       exact zz (ks:=[3,4,5,6,7]) (st':=(sd20297 yD yF yq yx yB)) ((r_Join_8a_f_o6 yD yF)++((r_Join_8a_f_o8 yD yF yB)++((r_Join_8a_f_o9 yq)++[.dec true,.op (some 94) ⟨.lref 0 ((w64 ((yq.length:Int) - 1)).toNat) 2 0,[],[],2⟩,.op (some 96) ⟨I ((yq.getD ((w64 ((yq.length:Int) - 1)).toNat) default).hi),[],[0],2⟩,.op (some 100) ⟨.lref 0 ((w64 ((yq.length:Int) - 1)).toNat) 2 0,[],[],2⟩,.stS 0 ⟨.tup [],[(0,some ⟨(yq.set ((w64 ((yq.length:Int) - 1)).toNat) (⟨(yq.getD ((w64 ((yq.length:Int) - 1)).toNat) default).lo,zN ((yq.getD ((w64 ((yq.length:Int) - 1)).toNat) default).hi) ((GS.at yF yB).hi)⟩:Sn)).map Sn.D,2,false⟩)],[0],2⟩]))) (Ai (store_row (C:=cfg) (objs:=[(0,⟨yq.map Sn.D,2,false⟩),(1,⟨[.agg [I ((GS.at yF yB).lo),I ((GS.at yF yB).hi)]],2,false⟩)]) (nxt:=2) (t:=3) (ty:=ty3) (o:=0) (n:=(w64 ((yq.length:Int) - 1)).toNat) (sz:=2) (sub:=1) (els:=yq.map Sn.D) (els':=(yq.set ((w64 ((yq.length:Int) - 1)).toNat) (⟨(yq.getD ((w64 ((yq.length:Int) - 1)).toNat) default).lo,zN ((yq.getD ((w64 ((yq.length:Int) - 1)).toNat) default).hi) ((GS.at yF yB).hi)⟩:Sn)).map Sn.D) (e:=Sn.D (yq.getD ((w64 ((yq.length:Int) - 1)).toNat) default)) (e':=Sn.D (⟨(yq.getD ((w64 ((yq.length:Int) - 1)).toNat) default).lo,zN ((yq.getD ((w64 ((yq.length:Int) - 1)).toNat) default).hi) ((GS.at yF yB).hi)⟩:Sn)) (v:=I (zN ((yq.getD ((w64 ((yq.length:Int) - 1)).toNat) default).hi) ((GS.at yF yB).hi))) (by kernel_rfl) (by kernel_rfl) (row_get (f:=Sn.D) (by simp only [length_append,length_cons,length_nil,zd] at *<;>omega)) rfl (by kernel_rfl) rfl (by kernel_rfl) (row_set (f:=Sn.D))) (Ai (idx_row (C:=cfg) (nxt:=2) (t:=22) (ty:=ty22) (te:=zR) (e:=25) (o:=0) (len:=yq.length) (sz:=2) (cap:=none) (i:=w64 ((yq.length:Int) - 1)) (by kernel_rfl) rfl (by kernel_rfl) rfl (by simp only [length_append,length_cons,length_nil,zd] at *<;>omega) (by simp only [length_append,length_cons,length_nil,zd] at *<;>omega)) (Ai (load_row (C:=cfg) (objs:=[(0,⟨yq.map Sn.D,2,false⟩),(1,⟨[.agg [I ((GS.at yF yB).lo),I ((GS.at yF yB).hi)]],2,false⟩)]) (nxt:=2) (t:=3) (ty:=ty3) (o:=0) (n:=(w64 ((yq.length:Int) - 1)).toNat) (sz:=2) (sub:=1) (ob:=⟨yq.map Sn.D,2,false⟩) (e:=Sn.D (yq.getD ((w64 ((yq.length:Int) - 1)).toNat) default)) (d:=I ((yq.getD ((w64 ((yq.length:Int) - 1)).toNat) default).hi)) (by kernel_rfl) (by kernel_rfl) rfl (row_get (f:=Sn.D) (by simp only [length_append,length_cons,length_nil,zd] at *<;>omega)) (by kernel_rfl)) (Ai (idx_row (C:=cfg) (nxt:=2) (t:=22) (ty:=ty22) (te:=zR) (e:=25) (o:=0) (len:=yq.length) (sz:=2) (cap:=none) (i:=w64 ((yq.length:Int) - 1)) (by kernel_rfl) rfl (by kernel_rfl) rfl (by simp only [length_append,length_cons,length_nil,zd] at *<;>omega) (by simp only [length_append,length_cons,length_nil,zd] at *<;>omega)) (Ai h36 (Ai p17 (Ai p16 (Ai h35 (Ai p15 (Ai h22 (Ai (zk Sn.D yD) (Ai h32 (Ai (zk Sn.D yF) (Ai h31 (Ai (zk Sn.D yF) (Ai h22 (Ai (zk Sn.D yD) trivial))))))))))))))))) (by kernel_rfl) (by (simp only [sd20297,go_sem,length_set,Nat.reduceAdd,Nat.reduceEqDiff,Nat.reduceLT,Nat.reduceLeDiff,bI2,ze.idsL,ze.renL,ze.snapAll,z7.idsL,z7.renL,z7.snapAll])<;>rfl) (ih (yq.set ((w64 ((yq.length:Int) - 1)).toNat) (⟨(yq.getD ((w64 ((yq.length:Int) - 1)).toNat) default).lo,zN ((yq.getD ((w64 ((yq.length:Int) - 1)).toNat) default).hi) ((GS.at yF yB).hi)⟩:Sn)) yx (w64 (yB+1)) hf8 (by omega) (by omega) (by omega) (by simp only [length_append,length_cons,length_nil,zd] at *<;>omega) (by simp only [zv,zj,GS.some_l,length_set,length_append,length_cons,length_nil,zd] at *<;>first|assumption|omega)) (by kernel_rfl)
      |false =>
       have g36:=of_decide_eq_false h36
       intro hf8
       exact zz (ks:=[3,4,5,6,7]) (st':=(sd20298 yD yF yq yx yB)) ((r_Join_8a_f_o6 yD yF)++((r_Join_8a_f_o8 yD yF yB)++((r_Join_8a_f_o9 yq)++[.dec false,.op (some 105) ⟨.lsl 3 0 ((yq++[(GS.at yF yB)]).length) 2 none,[(0,none),(3,some ⟨(yq++[(GS.at yF yB)]).map Sn.D,2,false⟩)],[0,2],4⟩]))) (Ai (app_row (f:=Sn.D) (te:=zR) (gO:=zw [(0,⟨yq.map Sn.D,2,false⟩),(1,⟨[.agg [I ((GS.at yF yB).lo),I ((GS.at yF yB).hi)]],2,false⟩),(2,⟨[.agg [I ((GS.at yF yB).lo),I ((GS.at yF yB).hi)]],2,false⟩)]) (nxt:=3) (o:=0) (o2:=2) (fz:=false) z7 yq (GS.at yF yB) (by kernel_rfl) (by kernel_rfl) rfl (by kernel_rfl) (by decide) ⟨by simp only [zR,big]<;>(first|assumption|omega|(exact zF (by omega) (by omega))|(exact zt (by omega))|(exact zm (by omega))|(exact zu (by omega))|(exact zn (by omega))|(exact zl _ (by omega))|(exact Nat.le_trans (hJl _) (by rw [zj];omega))|(simp only [zd] at *<;>omega)|(simp only [zv,zj,GS.some_l,length_set,length_append,length_cons,length_nil] at *<;>first|assumption|omega)|(simp only [zv,zj,GS.some_l,length_set,length_append,length_cons,length_nil,zd] at *<;>first|assumption|omega)|(simp at *<;>omega)),by simp only [big]<;>(first|assumption|omega|(exact zF (by omega) (by omega))|(exact zt (by omega))|(exact zm (by omega))|(exact zu (by omega))|(exact zn (by omega))|(exact zl _ (by omega))|(exact Nat.le_trans (hJl _) (by rw [zj];omega))|(simp only [zd] at *<;>omega)|(simp only [zv,zj,GS.some_l,length_set,length_append,length_cons,length_nil] at *<;>first|assumption|omega)|(simp only [zv,zj,GS.some_l,length_set,length_append,length_cons,length_nil,zd] at *<;>first|assumption|omega)|(simp at *<;>omega))⟩) (Ai h36 (Ai p17 (Ai p16 (Ai h35 (Ai p15 (Ai h22 (Ai (zk Sn.D yD) (Ai h32 (Ai (zk Sn.D yF) (Ai h31 (Ai (zk Sn.D yF) (Ai h22 (Ai (zk Sn.D yD) trivial)))))))))))))) (by kernel_rfl) (by (simp only [sd20298,go_sem,length_set,Nat.reduceAdd,Nat.reduceEqDiff,Nat.reduceLT,Nat.reduceLeDiff,bI2,ze.idsL,ze.renL,ze.snapAll,z7.idsL,z7.renL,z7.snapAll])<;>rfl) (ih (yq++[(GS.at yF yB)]) yx (w64 (yB+1)) hf8 (by omega) (by omega) (by omega) (by simp only [length_append,length_cons,length_nil,zd] at *<;>omega) (by simp only [length_append,length_cons,length_nil,zd] at *<;>omega)) (by kernel_rfl)
     |false =>
      have g35:=of_decide_eq_false h35
      intro hf8
      exact zz (ks:=[3,4,5,6,7]) (st':=(sd20299 yD yF yq yx yB)) ((r_Join_8a_f_o6 yD yF)++((r_Join_8a_f_o8 yD yF yB)++[.dec false,.op (some 105) ⟨.lsl 3 0 ((yq++[(GS.at yF yB)]).length) 2 none,[(0,none),(3,some ⟨(yq++[(GS.at yF yB)]).map Sn.D,2,false⟩)],[0,2],4⟩])) (Ai (app_row (f:=Sn.D) (te:=zR) (gO:=zw [(0,⟨yq.map Sn.D,2,false⟩),(1,⟨[.agg [I ((GS.at yF yB).lo),I ((GS.at yF yB).hi)]],2,false⟩),(2,⟨[.agg [I ((GS.at yF yB).lo),I ((GS.at yF yB).hi)]],2,false⟩)]) (nxt:=3) (o:=0) (o2:=2) (fz:=false) z7 yq (GS.at yF yB) (by kernel_rfl) (by kernel_rfl) rfl (by kernel_rfl) (by decide) ⟨by simp only [zR,big]<;>(first|assumption|omega|(exact zF (by omega) (by omega))|(exact zt (by omega))|(exact zm (by omega))|(exact zu (by omega))|(exact zn (by omega))|(exact zl _ (by omega))|(exact Nat.le_trans (hJl _) (by rw [zj];omega))|(simp only [zd] at *<;>omega)|(simp only [zv,zj,GS.some_l,length_set,length_append,length_cons,length_nil] at *<;>first|assumption|omega)|(simp only [zv,zj,GS.some_l,length_set,length_append,length_cons,length_nil,zd] at *<;>first|assumption|omega)|(simp at *<;>omega)),by simp only [big]<;>(first|assumption|omega|(exact zF (by omega) (by omega))|(exact zt (by omega))|(exact zm (by omega))|(exact zu (by omega))|(exact zn (by omega))|(exact zl _ (by omega))|(exact Nat.le_trans (hJl _) (by rw [zj];omega))|(simp only [zd] at *<;>omega)|(simp only [zv,zj,GS.some_l,length_set,length_append,length_cons,length_nil] at *<;>first|assumption|omega)|(simp only [zv,zj,GS.some_l,length_set,length_append,length_cons,length_nil,zd] at *<;>first|assumption|omega)|(simp at *<;>omega))⟩) (Ai h35 (Ai p15 (Ai h22 (Ai (zk Sn.D yD) (Ai h32 (Ai (zk Sn.D yF) (Ai h31 (Ai (zk Sn.D yF) (Ai h22 (Ai (zk Sn.D yD) trivial))))))))))) (by kernel_rfl) (by (simp only [sd20299,go_sem,length_set,Nat.reduceAdd,Nat.reduceEqDiff,Nat.reduceLT,Nat.reduceLeDiff,bI2,ze.idsL,ze.renL,ze.snapAll,z7.idsL,z7.renL,z7.snapAll])<;>rfl) (ih (yq++[(GS.at yF yB)]) yx (w64 (yB+1)) hf8 (by omega) (by omega) (by omega) (by omega) (by omega)) (by kernel_rfl)
   |false =>
    have g31:=of_decide_eq_false h31
    intro hf8
    exact zD [.rw 28 (I (yD.l.length:Int)),.dec false,.rw 33 (I (yF.l.length:Int)),.dec false] (Ai h31 (Ai (zk Sn.D yF) (Ai h22 (Ai (zk Sn.D yD) trivial)))) (by kernel_rfl)
theorem ivt_r_Join_8a (yD:GS Sn) (yF:GS Sn):∀(xj:Nat) (yq:List Sn) (yx:Int) (yB:Int) (hf8:zV yD yF xj yq yx yB≠.out) (ha32:yD.l.length≤1073741824) (hb32:yF.l.length≤1073741824) (hi1:0≤yx∧yx≤(yD.l.length:Int)) (hk1:0≤yB∧yB≤(yF.l.length:Int)) (ho1:1≤yq.length∧(yq.length:Int)≤yx+yB),iv_r_Join_8 yD yF (zV yD yF xj yq yx yB):=by
 intro xj
 induction xj with
 |zero =>
  intro yq yx yB hf8 ha32 hb32 hi1 hk1 ho1
  exact absurd rfl hf8
 |succ xj ih =>
  intro yq yx yB hf8 ha32 hb32 hi1 hk1 ho1
  unfold zV at hf8 ⊢
  revert hf8
  cases h22:decide (yx < (yD.l.length:Int)) with
  |true =>
   have g22:=of_decide_eq_true h22
   cases h23:(yB == (yF.l.length:Int)) with
   |true =>
    have g23:=eq_of_beq h23
    cases h24:decide ((yq.length:Int)>0) with
    |true =>
     have g24:=of_decide_eq_true h24
     cases h25:decide (((GS.at yD yx).lo)≤(w64 (((yq.getD ((w64 ((yq.length:Int) - 1)).toNat) default).hi)+1))) with
     |true =>
      have g25:=of_decide_eq_true h25
      intro hf8
      exact ih (yq.set ((w64 ((yq.length:Int) - 1)).toNat) (⟨(yq.getD ((w64 ((yq.length:Int) - 1)).toNat) default).lo,zN ((yq.getD ((w64 ((yq.length:Int) - 1)).toNat) default).hi) ((GS.at yD yx).hi)⟩:Sn)) (w64 (yx+1)) yB hf8 (by omega) (by omega) (by simp only [length_append,length_cons,length_nil,zd] at *<;>omega) (by omega) (by simp only [zv,zj,GS.some_l,length_set,length_append,length_cons,length_nil,zd] at *<;>first|assumption|omega)
     |false =>
      have g25:=of_decide_eq_false h25
      intro hf8
      exact ih (yq++[(GS.at yD yx)]) (w64 (yx+1)) yB hf8 (by omega) (by omega) (by simp only [length_append,length_cons,length_nil,zd] at *<;>omega) (by omega) (by simp only [length_append,length_cons,length_nil,zd] at *<;>omega)
    |false =>
     have g24:=of_decide_eq_false h24
     intro hf8
     exact ih (yq++[(GS.at yD yx)]) (w64 (yx+1)) yB hf8 (by omega) (by omega) (by omega) (by omega) (by omega)
   |false =>
    have g23:=ne_of_beq_false h23
    cases h26:decide (((GS.at yD yx).lo)≤((GS.at yF yB).lo)) with
    |true =>
     have g26:=of_decide_eq_true h26
     cases h27:decide ((yq.length:Int)>0) with
     |true =>
      have g27:=of_decide_eq_true h27
      cases h28:decide (((GS.at yD yx).lo)≤(w64 (((yq.getD ((w64 ((yq.length:Int) - 1)).toNat) default).hi)+1))) with
      |true =>
       have g28:=of_decide_eq_true h28
       intro hf8
       exact ih (yq.set ((w64 ((yq.length:Int) - 1)).toNat) (⟨(yq.getD ((w64 ((yq.length:Int) - 1)).toNat) default).lo,zN ((yq.getD ((w64 ((yq.length:Int) - 1)).toNat) default).hi) ((GS.at yD yx).hi)⟩:Sn)) (w64 (yx+1)) yB hf8 (by omega) (by omega) (by simp only [length_append,length_cons,length_nil,zd] at *<;>omega) (by omega) (by simp only [zv,zj,GS.some_l,length_set,length_append,length_cons,length_nil,zd] at *<;>first|assumption|omega)
      |false =>
       have g28:=of_decide_eq_false h28
       intro hf8
       exact ih (yq++[(GS.at yD yx)]) (w64 (yx+1)) yB hf8 (by omega) (by omega) (by simp only [length_append,length_cons,length_nil,zd] at *<;>omega) (by omega) (by simp only [length_append,length_cons,length_nil,zd] at *<;>omega)
     |false =>
      have g27:=of_decide_eq_false h27
      intro hf8
      exact ih (yq++[(GS.at yD yx)]) (w64 (yx+1)) yB hf8 (by omega) (by omega) (by omega) (by omega) (by omega)
    |false =>
     have g26:=of_decide_eq_false h26
     cases h29:decide ((yq.length:Int)>0) with
     |true =>
      have g29:=of_decide_eq_true h29
      cases h30:decide (((GS.at yF yB).lo)≤(w64 (((yq.getD ((w64 ((yq.length:Int) - 1)).toNat) default).hi)+1))) with
      |true =>
       have g30:=of_decide_eq_true h30
       intro hf8
       exact ih (yq.set ((w64 ((yq.length:Int) - 1)).toNat) (⟨(yq.getD ((w64 ((yq.length:Int) - 1)).toNat) default).lo,zN ((yq.getD ((w64 ((yq.length:Int) - 1)).toNat) default).hi) ((GS.at yF yB).hi)⟩:Sn)) yx (w64 (yB+1)) hf8 (by omega) (by omega) (by omega) (by simp only [length_append,length_cons,length_nil,zd] at *<;>omega) (by simp only [zv,zj,GS.some_l,length_set,length_append,length_cons,length_nil,zd] at *<;>first|assumption|omega)
      |false =>
       have g30:=of_decide_eq_false h30
       intro hf8
       exact ih (yq++[(GS.at yF yB)]) yx (w64 (yB+1)) hf8 (by omega) (by omega) (by omega) (by simp only [length_append,length_cons,length_nil,zd] at *<;>omega) (by simp only [length_append,length_cons,length_nil,zd] at *<;>omega)
     |false =>
      have g29:=of_decide_eq_false h29
      intro hf8
      exact ih (yq++[(GS.at yF yB)]) yx (w64 (yB+1)) hf8 (by omega) (by omega) (by omega) (by omega) (by omega)
  |false =>
   have g22:=of_decide_eq_false h22
   cases h31:decide (yB < (yF.l.length:Int)) with
   |true =>
    have g31:=of_decide_eq_true h31
    cases h32:(yB == (yF.l.length:Int)) with
    |true =>
     have g32:=eq_of_beq h32
     cases h33:decide ((yq.length:Int)>0) with
     |true =>
      have g33:=of_decide_eq_true h33
      cases h34:decide (((GS.at yD yx).lo)≤(w64 (((yq.getD ((w64 ((yq.length:Int) - 1)).toNat) default).hi)+1))) with
      |true =>
       have g34:=of_decide_eq_true h34
       intro hf8
       exact ih (yq.set ((w64 ((yq.length:Int) - 1)).toNat) (⟨(yq.getD ((w64 ((yq.length:Int) - 1)).toNat) default).lo,zN ((yq.getD ((w64 ((yq.length:Int) - 1)).toNat) default).hi) ((GS.at yD yx).hi)⟩:Sn)) (w64 (yx+1)) yB hf8 (by omega) (by omega) (by omega) (by omega) (by omega)
      |false =>
       have g34:=of_decide_eq_false h34
       intro hf8
       exact ih (yq++[(GS.at yD yx)]) (w64 (yx+1)) yB hf8 (by omega) (by omega) (by omega) (by omega) (by omega)
     |false =>
      have g33:=of_decide_eq_false h33
      intro hf8
      exact ih (yq++[(GS.at yD yx)]) (w64 (yx+1)) yB hf8 (by omega) (by omega) (by omega) (by omega) (by omega)
    |false =>
     have g32:=ne_of_beq_false h32
     cases h35:decide ((yq.length:Int)>0) with
     |true =>
      have g35:=of_decide_eq_true h35
      cases h36:decide (((GS.at yF yB).lo)≤(w64 (((yq.getD ((w64 ((yq.length:Int) - 1)).toNat) default).hi)+1))) with
      |true =>
       have g36:=of_decide_eq_true h36
       intro hf8
       exact ih (yq.set ((w64 ((yq.length:Int) - 1)).toNat) (⟨(yq.getD ((w64 ((yq.length:Int) - 1)).toNat) default).lo,zN ((yq.getD ((w64 ((yq.length:Int) - 1)).toNat) default).hi) ((GS.at yF yB).hi)⟩:Sn)) yx (w64 (yB+1)) hf8 (by omega) (by omega) (by omega) (by simp only [length_append,length_cons,length_nil,zd] at *<;>omega) (by simp only [zv,zj,GS.some_l,length_set,length_append,length_cons,length_nil,zd] at *<;>first|assumption|omega)
      |false =>
       have g36:=of_decide_eq_false h36
       intro hf8
       exact ih (yq++[(GS.at yF yB)]) yx (w64 (yB+1)) hf8 (by omega) (by omega) (by omega) (by simp only [length_append,length_cons,length_nil,zd] at *<;>omega) (by simp only [length_append,length_cons,length_nil,zd] at *<;>omega)
     |false =>
      have g35:=of_decide_eq_false h35
      intro hf8
      exact ih (yq++[(GS.at yF yB)]) yx (w64 (yB+1)) hf8 (by omega) (by omega) (by omega) (by omega) (by omega)
   |false =>
    have g31:=of_decide_eq_false h31
    intro hf8
    exact ⟨hi1,hk1,ho1⟩
def r_Join_8_f_o1 (yD:GS Sn) (yF:GS Sn):List Ora:=[.rw 28 (I (yD.l.length:Int)),.dec true,.rw 39 (I (yF.l.length:Int)),.dec false,.rw 44 (I (yD.l.length:Int)),.dec true,.el (.agg [I ((GS.at yD 0).lo),I ((GS.at yD 0).hi)]),.el (.agg [I ((GS.at yF 0).lo),I ((GS.at yF 0).hi)])]
def r_Join_8_f_o2 (yD:GS Sn) (yF:GS Sn):List Ora:=[.rw 28 (I (yD.l.length:Int)),.dec false,.rw 33 (I (yF.l.length:Int)),.dec true,.rw 39 (I (yF.l.length:Int))]
theorem lp_r_Join_8 (yD:GS Sn) (yF:GS Sn):∀(xj:Nat) (hf8:r_Join_8 yD yF xj≠.out) (ha32:yD.l.length≤1073741824) (hb32:yF.l.length≤1073741824),(lim cfg).loop 75 lp75_8 ⟨107,[(3,.sl yD.nl (yD.l.map Sn.D) (zsl yD.nl 2) none),(4,.sl yF.nl (yF.l.map Sn.D) (zsl yF.nl 2) none),(5,.sl true [] 0 none),(6,I 0),(7,I 0)],[],0,0⟩=some (lr_r_Join_8 yD yF (r_Join_8 yD yF xj)):=by
 intro xj
 induction xj with
 |zero =>
  intro hf8 ha32 hb32
  exact absurd rfl hf8
 |succ xj ih =>
  intro hf8 ha32 hb32
  unfold r_Join_8 at hf8 ⊢
  revert hf8
  cases h37:decide (0 < (yD.l.length:Int)) with
  |true =>
   have g37:=of_decide_eq_true h37
   cases h38:(0 == (yF.l.length:Int)) with
   |true =>
    have g38:=eq_of_beq h38
    intro hf8
    exact po_turn [.rw 28 (I (yD.l.length:Int)),.dec true,.rw 39 (I (yF.l.length:Int)),.dec true,.el (.agg [I ((GS.at yD 0).lo),I ((GS.at yD 0).hi)]),.rw 65 (I 1),.dec false] (Ai (Eq.refl false) (Ai (zadd_rw (x:=1) (by omega)) (Ai (el_in (s:=yD) (f:=Sn.D) (k:=2) (i:=0) (by omega) (by omega)) (Ai h38 (Ai (zk Sn.D yF) (Ai h37 (Ai (zk Sn.D yD) trivial))))))) (lp_r_Join_8a yD yF _ [(GS.at yD 0)] 1 0 hf8 (by omega) (by omega) (by omega) (by omega) (by simp only [length_append,length_cons,length_nil] at *<;>omega)) (by kernel_rfl)
   |false =>
    have g38:=ne_of_beq_false h38
    have p1:=(el_in (s:=yD) (f:=Sn.D) (k:=2) (i:=0) (by omega) (by omega))
    have p2:=(el_in (s:=yF) (f:=Sn.D) (k:=2) (i:=0) (by omega) (by omega))
    cases h39:decide (((GS.at yD 0).lo)≤((GS.at yF 0).lo)) with
    |true =>
     have g39:=of_decide_eq_true h39
     intro hf8
     exact po_turn ((r_Join_8_f_o1 yD yF)++[.dec true,.el (.agg [I ((GS.at yD 0).lo),I ((GS.at yD 0).hi)]),.rw 65 (I 1),.dec false]) (Ai (Eq.refl false) (Ai (zadd_rw (x:=1) (by omega)) (Ai (el_in (s:=yD) (f:=Sn.D) (k:=2) (i:=0) (by omega) (by omega)) (Ai h39 (Ai p2 (Ai p1 (Ai h37 (Ai (zk Sn.D yD) (Ai h38 (Ai (zk Sn.D yF) (Ai h37 (Ai (zk Sn.D yD) trivial)))))))))))) (lp_r_Join_8a yD yF _ [(GS.at yD 0)] 1 0 hf8 (by omega) (by omega) (by omega) (by omega) (by simp only [length_append,length_cons,length_nil] at *<;>omega)) (by kernel_rfl)
    |false =>
     have g39:=of_decide_eq_false h39
     intro hf8
     exact po_turn ((r_Join_8_f_o1 yD yF)++[.dec false,.el (.agg [I ((GS.at yF 0).lo),I ((GS.at yF 0).hi)]),.rw 71 (I 1),.dec false]) (Ai (Eq.refl false) (Ai (zadd_rw (x:=1) (by omega)) (Ai (el_in (s:=yF) (f:=Sn.D) (k:=2) (i:=0) (by omega) (by omega)) (Ai h39 (Ai p2 (Ai p1 (Ai h37 (Ai (zk Sn.D yD) (Ai h38 (Ai (zk Sn.D yF) (Ai h37 (Ai (zk Sn.D yD) trivial)))))))))))) (lp_r_Join_8a yD yF _ [(GS.at yF 0)] 0 1 hf8 (by omega) (by omega) (by omega) (by omega) (by simp only [length_append,length_cons,length_nil] at *<;>omega)) (by kernel_rfl)
  |false =>
   have g37:=of_decide_eq_false h37
   cases h40:decide (0 < (yF.l.length:Int)) with
   |true =>
    have g40:=of_decide_eq_true h40
    cases h41:(0 == (yF.l.length:Int)) with
    |true =>
     have g41:=eq_of_beq h41
     intro hf8
     exact po_turn ((r_Join_8_f_o2 yD yF)++[.dec true,.el (.agg [I ((GS.at yD 0).lo),I ((GS.at yD 0).hi)]),.rw 65 (I 1),.dec false]) (Ai (Eq.refl false) (Ai (zadd_rw (x:=1) (by omega)) (Ai (el_in (s:=yD) (f:=Sn.D) (k:=2) (i:=0) (by omega) (by omega)) (Ai h41 (Ai (zk Sn.D yF) (Ai h40 (Ai (zk Sn.D yF) (Ai h37 (Ai (zk Sn.D yD) trivial))))))))) (lp_r_Join_8a yD yF _ [(GS.at yD 0)] 1 0 hf8 (by omega) (by omega) (by omega) (by omega) (by omega)) (by kernel_rfl)
    |false =>
     have g41:=ne_of_beq_false h41
     intro hf8
     exact po_turn ((r_Join_8_f_o2 yD yF)++[.dec false,.rw 44 (I (yD.l.length:Int)),.dec false,.el (.agg [I ((GS.at yF 0).lo),I ((GS.at yF 0).hi)]),.rw 71 (I 1),.dec false]) (Ai (Eq.refl false) (Ai (zadd_rw (x:=1) (by omega)) (Ai (el_in (s:=yF) (f:=Sn.D) (k:=2) (i:=0) (by omega) (by omega)) (Ai h37 (Ai (zk Sn.D yD) (Ai h41 (Ai (zk Sn.D yF) (Ai h40 (Ai (zk Sn.D yF) (Ai h37 (Ai (zk Sn.D yD) trivial))))))))))) (lp_r_Join_8a yD yF _ [(GS.at yF 0)] 0 1 hf8 (by omega) (by omega) (by omega) (by omega) (by simp only [length_append,length_cons,length_nil] at *<;>omega)) (by kernel_rfl)
   |false =>
    have g40:=of_decide_eq_false h40
    intro hf8
    exact zD [.rw 28 (I (yD.l.length:Int)),.dec false,.rw 33 (I (yF.l.length:Int)),.dec false] (Ai h40 (Ai (zk Sn.D yF) (Ai h37 (Ai (zk Sn.D yD) trivial)))) (by kernel_rfl)
theorem ivt_r_Join_8 (yD:GS Sn) (yF:GS Sn):∀(xj:Nat) (hf8:r_Join_8 yD yF xj≠.out) (ha32:yD.l.length≤1073741824) (hb32:yF.l.length≤1073741824),iv_r_Join_8 yD yF (r_Join_8 yD yF xj):=by
 intro xj
 induction xj with
 |zero =>
  intro hf8 ha32 hb32
  exact absurd rfl hf8
 |succ xj ih =>
  intro hf8 ha32 hb32
  unfold r_Join_8 at hf8 ⊢
  revert hf8
  cases h37:decide (0 < (yD.l.length:Int)) with
  |true =>
   have g37:=of_decide_eq_true h37
   cases h38:(0 == (yF.l.length:Int)) with
   |true =>
    have g38:=eq_of_beq h38
    intro hf8
    exact ivt_r_Join_8a yD yF _ [(GS.at yD 0)] 1 0 hf8 (by omega) (by omega) (by omega) (by omega) (by simp only [length_append,length_cons,length_nil] at *<;>omega)
   |false =>
    have g38:=ne_of_beq_false h38
    cases h39:decide (((GS.at yD 0).lo)≤((GS.at yF 0).lo)) with
    |true =>
     have g39:=of_decide_eq_true h39
     intro hf8
     exact ivt_r_Join_8a yD yF _ [(GS.at yD 0)] 1 0 hf8 (by omega) (by omega) (by omega) (by omega) (by simp only [length_append,length_cons,length_nil] at *<;>omega)
    |false =>
     have g39:=of_decide_eq_false h39
     intro hf8
     exact ivt_r_Join_8a yD yF _ [(GS.at yF 0)] 0 1 hf8 (by omega) (by omega) (by omega) (by omega) (by simp only [length_append,length_cons,length_nil] at *<;>omega)
  |false =>
   have g37:=of_decide_eq_false h37
   cases h40:decide (0 < (yF.l.length:Int)) with
   |true =>
    have g40:=of_decide_eq_true h40
    cases h41:(0 == (yF.l.length:Int)) with
    |true =>
     have g41:=eq_of_beq h41
     intro hf8
     exact ivt_r_Join_8a yD yF _ [(GS.at yD 0)] 1 0 hf8 (by omega) (by omega) (by omega) (by omega) (by omega)
    |false =>
     have g41:=ne_of_beq_false h41
     intro hf8
     exact ivt_r_Join_8a yD yF _ [(GS.at yF 0)] 0 1 hf8 (by omega) (by omega) (by omega) (by omega) (by simp only [length_append,length_cons,length_nil] at *<;>omega)
   |false =>
    have g40:=of_decide_eq_false h40
    intro hf8
    exact trivial

theorem r_Join_ne' (p q:GS Sn) (hp:p.l.length≤1073741824) (hq:q.l.length≤1073741824):∀(n:Nat) (v:List Sn) (i k:Int),0≤i→i≤p.l.length→0≤k→k≤q.l.length→(p.l.length:Int)+q.l.length - i - k < n→zV p q n v i k≠.out
 |0,v,i,k,h0,h1,h2,h3,hn=>by omega
 |n+1,v,i,k,h0,h1,h2,h3,hn=>by
  have hi:i < p.l.length→∀v',zV p q n v' (w64 (i+1)) k≠.out:=fun hl v'=>by
   rw [w64_eq (by omega) (by omega)]
   exact r_Join_ne' p q hp hq n v' _ _ (by omega) (by omega) h2 h3 (by omega)
  have hk:k < q.l.length→∀v',zV p q n v' i (w64 (k+1))≠.out:=fun hl v'=>by
   rw [w64_eq (by omega) (by omega)]
   exact r_Join_ne' p q hp hq n v' _ _ h0 h1 (by omega) (by omega) (by omega)
  unfold zV
  simp only [Bool.cond_eq_ite]
  repeat' split
  all_goals simp only [decide_eq_true_eq,beq_iff_eq] at *
  all_goals first|(intro h;cases h;done)|(exact hi (by omega) _)|(exact hk (by omega) _)|(exfalso;omega)
theorem r_Join_ne (p q:GS Sn) (hp:p.l.length≤1073741824) (hq:q.l.length≤1073741824):r_Join_8 p q (p.l.length+q.l.length+1)≠.out:=by
 unfold r_Join_8
 simp only [Bool.cond_eq_ite]
 repeat' split
 all_goals simp only [decide_eq_true_eq,beq_iff_eq] at *
 all_goals first|(intro h;cases h;done)|(exact r_Join_ne' p q hp hq _ _ _ _ (by omega) (by omega) (by omega) (by omega) (by omega))|(exfalso;omega)

def r_Join (J:GS Sn→GS Sn) (l:GS Sn):(GS Sn) :=
 bif decide ((l.l.length:Int) < 2) then
  l
 else
  match r_Join_8 (J (cutG l 0 (l.l.length / 2))) (J (cutG l (l.l.length / 2) l.l.length)) ((J (cutG l 0 (l.l.length / 2))).l.length+(J (cutG l (l.l.length / 2) l.l.length)).l.length+1) with
  |.x0 yq yx yB =>
   GS.some yq
  |.x1 =>
   GS.nil
  |.out =>
   default

def r_Join_o1 (l:GS Sn) (J:GS Sn→GS Sn):List Ora:=[.rw 11 (I (l.l.length:Int)),.dec false,.rw 16 (I (l.l.length:Int)),.rw 17 (I ((l.l.length / 2:Nat):Int)),.op (some 18) ⟨.sl ((cutG l 0 (l.l.length / 2)).nl) (((cutG l 0 (l.l.length / 2)).l).map Sn.D) (zsl ((cutG l 0 (l.l.length / 2)).nl) 2) none,[],[],0⟩,.pure (.sl ((J (cutG l 0 (l.l.length / 2))).nl) (((J (cutG l 0 (l.l.length / 2))).l).map Sn.D) (zsl ((J (cutG l 0 (l.l.length / 2))).nl) 2) none),.rw 22 (I (l.l.length:Int)),.rw 23 (I ((l.l.length / 2:Nat):Int)),.op (some 24) ⟨.sl ((cutG l (l.l.length / 2) l.l.length).nl) (((cutG l (l.l.length / 2) l.l.length).l).map Sn.D) (zsl ((cutG l (l.l.length / 2) l.l.length).nl) 2) none,[],[],0⟩,.pure (.sl ((J (cutG l (l.l.length / 2) l.l.length)).nl) (((J (cutG l (l.l.length / 2) l.l.length)).l).map Sn.D) (zsl ((J (cutG l (l.l.length / 2) l.l.length)).nl) 2) none)]

def sd20300 (l:GS Sn) (J:GS Sn→GS Sn) (yq:List Sn) (yx:Int) (yB:Int):St:=⟨107,[(35,B false),(34,B false),(33,I (((J (cutG l (l.l.length / 2) l.l.length)).l.length:Nat):Int)),(32,.sl ((J (cutG l (l.l.length / 2) l.l.length)).nl) (((J (cutG l (l.l.length / 2) l.l.length)).l).map Sn.D) (zsl ((J (cutG l (l.l.length / 2) l.l.length)).nl) 2) none),(31,I yB),(30,B false),(29,B false),(28,I (((J (cutG l 0 (l.l.length / 2))).l.length:Nat):Int)),(27,.sl ((J (cutG l 0 (l.l.length / 2))).nl) (((J (cutG l 0 (l.l.length / 2))).l).map Sn.D) (zsl ((J (cutG l 0 (l.l.length / 2))).nl) 2) none),(26,I yx),(3,.sl ((J (cutG l 0 (l.l.length / 2))).nl) (((J (cutG l 0 (l.l.length / 2))).l).map Sn.D) (zsl ((J (cutG l 0 (l.l.length / 2))).nl) 2) none),(4,.sl ((J (cutG l (l.l.length / 2) l.l.length)).nl) (((J (cutG l (l.l.length / 2) l.l.length)).l).map Sn.D) (zsl ((J (cutG l (l.l.length / 2) l.l.length)).nl) 2) none),(5,.lsl 0 0 yq.length 2 none),(6,I yx),(7,I yB)],[(0,⟨yq.map Sn.D,2,false⟩)],1,0⟩

def sd20301 (l:GS Sn) (J:GS Sn→GS Sn):St:=⟨107,[(35,B false),(34,B false),(33,I (((J (cutG l (l.l.length / 2) l.l.length)).l.length:Nat):Int)),(32,.sl ((J (cutG l (l.l.length / 2) l.l.length)).nl) (((J (cutG l (l.l.length / 2) l.l.length)).l).map Sn.D) (zsl ((J (cutG l (l.l.length / 2) l.l.length)).nl) 2) none),(31,I 0),(30,B false),(29,B false),(28,I (((J (cutG l 0 (l.l.length / 2))).l.length:Nat):Int)),(27,.sl ((J (cutG l 0 (l.l.length / 2))).nl) (((J (cutG l 0 (l.l.length / 2))).l).map Sn.D) (zsl ((J (cutG l 0 (l.l.length / 2))).nl) 2) none),(26,I 0),(3,.sl ((J (cutG l 0 (l.l.length / 2))).nl) (((J (cutG l 0 (l.l.length / 2))).l).map Sn.D) (zsl ((J (cutG l 0 (l.l.length / 2))).nl) 2) none),(4,.sl ((J (cutG l (l.l.length / 2) l.l.length)).nl) (((J (cutG l (l.l.length / 2) l.l.length)).l).map Sn.D) (zsl ((J (cutG l (l.l.length / 2) l.l.length)).nl) 2) none),(5,.sl true [] 0 none),(6,I 0),(7,I 0)],[],0,0⟩

theorem T_r_Join (J:GS Sn→GS Sn) (l:GS Sn) (hL:l.l.length≤1073741824) (hJ:∀x:GS Sn,x.l.length < l.l.length→(∀s∈x.l,s∈l.l)→(lim cfg).pure 75 [GS.D Sn.D 2 x]=some (GS.D Sn.D 2 (J x))) (hJl:∀x:GS Sn,(J x).l.length≤x.l.length):(lim cfg).pure 75 [GS.D Sn.D 2 l]=some (GS.D Sn.D 2 (r_Join J l)):=by
 unfold r_Join
 cases h1:decide ((l.l.length:Int) < 2) with
 |true =>
  have g1:=of_decide_eq_true h1
  exact zp [.rw 11 (I (l.l.length:Int)),.dec true] (Ai h1 (Ai (zk Sn.D l) trivial)) (by kernel_rfl)
 |false =>
  have g1:=of_decide_eq_false h1
  have p1:=(half_rw (x:=l.l.length) (by omega))
  have p2:=(slice_hi (C:=cfg) (objs:=[]) (t:=22) (f:=Sn.D) (sz:=2) (nxt:=0) (s:=l) (k:=l.l.length / 2) rfl rfl rfl rfl (by omega) (by omega))
  have p3:=(hJ (cutG l 0 (l.l.length / 2)) (by simp only [zv,zj,GS.some_l,length_set,length_append,length_cons,length_nil] at *<;>first|assumption|omega) (cut_sub _ _ _))
  have p4:=(half_rw (x:=l.l.length) (by omega))
  have p5:=(slice_lo (C:=cfg) (objs:=[]) (t:=22) (f:=Sn.D) (sz:=2) (nxt:=0) (s:=l) (k:=l.l.length / 2) rfl rfl rfl rfl (by omega) (by omega))
  have p6:=(hJ (cutG l (l.l.length / 2) l.l.length) (by simp only [zv,zj,GS.some_l,length_set,length_append,length_cons,length_nil] at *<;>first|assumption|omega) (cut_sub _ _ _))
  cases h42:r_Join_8 (J (cutG l 0 (l.l.length / 2))) (J (cutG l (l.l.length / 2) l.l.length)) ((J (cutG l 0 (l.l.length / 2))).l.length+(J (cutG l (l.l.length / 2) l.l.length)).l.length+1) with
  |x0 yq yx yB =>
   try dsimp only
   have hv_h42:=ivt_r_Join_8 (J (cutG l 0 (l.l.length / 2))) (J (cutG l (l.l.length / 2) l.l.length)) ((J (cutG l 0 (l.l.length / 2))).l.length+(J (cutG l (l.l.length / 2) l.l.length)).l.length+1) (r_Join_ne _ _ (Nat.le_trans (hJl _) (by rw [zj];omega)) (Nat.le_trans (hJl _) (by rw [zj];omega))) (by exact Nat.le_trans (hJl _) (by rw [zj];omega)) (by exact Nat.le_trans (hJl _) (by rw [zj];omega))
   rw [h42] at hv_h42
   obtain ⟨hv_h42_0,hv_h42_1,hv_h42_2⟩:=hv_h42
   try dsimp only [iv_r_Join_8] at hv_h42_0
   try dsimp only [iv_r_Join_8] at hv_h42_1
   try dsimp only [iv_r_Join_8] at hv_h42_2
   exact po_pureS ((r_Join_o1 l J)++[.loop (.exit 0) (sd20300 l J yq yx yB)]) [(0,.sl false (yq.map Sn.D) 2 none,[0])] (Ai (snap_row (gO:=zw [(0,⟨yq.map Sn.D,2,false⟩)]) (o:=0) (len:=yq.length) (cap:=none) (fz:=false) z7 yq (by kernel_rfl) (by omega)) (Ai (y8 (q:=lr_r_Join_8 (J (cutG l 0 (l.l.length / 2))) (J (cutG l (l.l.length / 2) l.l.length))) (lp_r_Join_8 (J (cutG l 0 (l.l.length / 2))) (J (cutG l (l.l.length / 2) l.l.length)) ((J (cutG l 0 (l.l.length / 2))).l.length+(J (cutG l (l.l.length / 2) l.l.length)).l.length+1) (r_Join_ne _ _ (Nat.le_trans (hJl _) (by rw [zj];omega)) (Nat.le_trans (hJl _) (by rw [zj];omega))) (by exact Nat.le_trans (hJl _) (by rw [zj];omega)) (by exact Nat.le_trans (hJl _) (by rw [zj];omega))) h42) (Ai p6 (Ai p5 (Ai p4 (Ai (zk Sn.D l) (Ai p3 (Ai p2 (Ai p1 (Ai (zk Sn.D l) (Ai h1 (Ai (zk Sn.D l) trivial)))))))))))) (by kernel_rfl)
  |x1 =>
   try dsimp only
   exact zp ((r_Join_o1 l J)++[.loop (.exit 0) (sd20301 l J)]) (Ai (y8 (q:=lr_r_Join_8 (J (cutG l 0 (l.l.length / 2))) (J (cutG l (l.l.length / 2) l.l.length))) (lp_r_Join_8 (J (cutG l 0 (l.l.length / 2))) (J (cutG l (l.l.length / 2) l.l.length)) ((J (cutG l 0 (l.l.length / 2))).l.length+(J (cutG l (l.l.length / 2) l.l.length)).l.length+1) (r_Join_ne _ _ (Nat.le_trans (hJl _) (by rw [zj];omega)) (Nat.le_trans (hJl _) (by rw [zj];omega))) (by exact Nat.le_trans (hJl _) (by rw [zj];omega)) (by exact Nat.le_trans (hJl _) (by rw [zj];omega))) h42) (Ai p6 (Ai p5 (Ai p4 (Ai (zk Sn.D l) (Ai p3 (Ai p2 (Ai p1 (Ai (zk Sn.D l) (Ai h1 (Ai (zk Sn.D l) trivial))))))))))) (by kernel_rfl)
  |out =>
   exact absurd h42 ((r_Join_ne _ _ (Nat.le_trans (hJl _) (by rw [zj];omega)) (Nat.le_trans (hJl _) (by rw [zj];omega))))
end Go.VS

namespace Go.VS
open Go Go.Proofs
end Go.VS

namespace Go.VS
open List (length_append length_cons length_nil)
open Go
theorem getD_last {v:List Sn} {c:Sn}:(v++[c]).getD v.length default=c:=by
 rw [List.getD_eq_getElem?_getD,List.getElem?_append_right (Nat.le_refl _)];simp
theorem set_last {v:List Sn} {c d:Sn}:(v++[c]).set v.length d=v++[d]:=by
 rw [List.set_append_right _ _ (Nat.le_refl _)];simp
theorem len_last {v:List Sn} {c:Sn}:w64 ((((v++[c]).length:Nat):Int) - 1)=(v.length:Int)∨9223372036854775807 < v.length:=by
 by_cases h:9223372036854775807 < v.length
 ·exact .inr h
 ·left
  simp only [length_append,length_cons,length_nil]
  rw [w64_eq (by omega) (by omega)];omega
def ArL (l:List Sn):Prop:=∀s∈l,Ar s.lo∧Ar s.hi

theorem ranges_gathered_4p1_ok:∀(l:List Sn) (i:Nat) (v:List Sn) (c:Sn),ArL l→Ar c.hi→v.length+l.length≤1099511627776→zZ l i (v++[c])=.x0 (v++jn c l)
 |[],i,v,c,_,_,_=>rfl
 |x::l,i,v,c,h,hc,hv=>by
  have hx:=h x List.mem_cons_self
  have h':ArL l:=fun t ht=>h t (List.mem_cons_of_mem _ ht)
  simp only [length_cons] at hv
  unfold zZ jn
  rw [area_iff.2 hx.1,area_iff.2 hx.2]
  have hl:w64 ((((v++[c]).length:Nat):Int) - 1)=(v.length:Int):=by
   rcases len_last (v:=v) (c:=c) with e|e
   ·exact e
   ·omega
  have hp:decide ((((v++[c]).length:Nat):Int)>0)=true:=decide_eq_true (by simp only [length_append,length_cons,length_nil];omega)
  rw [hl,hp,Int.toNat_natCast,getD_last,set_last]
  unfold Ar at hc
  have hx2:=hx.2
  unfold Ar at hx2
  rw [w64_eq (n:=c.hi+1) (by omega) (by omega),imax_eq]
  by_cases hle:x.lo≤c.hi+1
  ·rw [decide_eq_true hle,if_pos hle]
   exact ranges_gathered_4p1_ok l (i+1) v ⟨c.lo,max c.hi x.hi⟩ h' (by unfold Ar;simp only;omega) (by omega)
  ·rw [decide_eq_false hle,if_neg hle]
   have:=ranges_gathered_4p1_ok l (i+1) (v++[c]) x h' hx.2 (by simp only [length_append,length_cons,length_nil];omega)
   simp only [cond_true,cond_false]
   rw [this,List.append_assoc];rfl
def ranges_gathered_4p1_er:LR_ranges_gathered_4p1→Bool
 |.x1 _ _ _=>true
 |.x2 _ _ _=>true
 |.x4 _ _=>true
 |.x5 _ _=>true
 |_=>false
theorem ranges_gathered_4p1_bad:∀(l:List Sn) (i:Nat) (v:List Sn),¬ArL l→ranges_gathered_4p1_er (zZ l i v)=true
 |[],i,v,h=>absurd (fun s hs=>by cases hs) h
 |x::l,i,v,h=>by
  unfold zZ
  cases h1:zq x.lo with
  |false=>rfl
  |true =>
   cases h2:zq x.hi with
   |false=>rfl
   |true =>
    have h':¬ArL l:=fun k=>h fun s hs=>by
     rcases List.mem_cons.1 hs with rfl|hs
     ·exact ⟨area_iff.1 h1,area_iff.1 h2⟩
     ·exact k s hs
    have ih:=fun v=>ranges_gathered_4p1_bad l (i+1) v h'
    simp only [cond_true]
    cases decide ((v.length:Int)>0) with
    |false=>exact ih _
    |true =>
     simp only [cond_true]
     cases decide (x.lo≤w64 ((v.getD ((w64 ((v.length:Int) - 1)).toNat) default).hi+1))<;>exact ih _
theorem ranges_gathered_4p1_at {l:List Sn} (hne:l≠[]) (hl:l.length≤1099511627776):(ArL l∧zY (zB zx l) 0=.x0 (can zx l))∨(¬ArL l∧ranges_gathered_4p1_er (zY (zB zx l) 0)=true):=by
 have hp:=srtG_perm gcmp_lo l
 have hlen:=srtG_len gcmp_lo l
 have har:ArL (zB zx l)↔ArL l:=⟨fun h s hs=>h s (hp.mem_iff.2 hs),fun h s hs=>h s (hp.mem_iff.1 hs)⟩
 rw [← har]
 unfold can
 have hne':zB zx l≠[]:=fun h=>hne (by rw [h] at hp;exact List.nil_perm.1 hp)
 generalize zB zx l=q at *
 cases q with
 |nil=>exact absurd rfl hne'
 |cons c q =>
  simp only [length_cons] at hlen
  unfold zY jnL
  dsimp only
  by_cases hc:Ar c.lo∧Ar c.hi
  ·rw [area_iff.2 hc.1,area_iff.2 hc.2]
   by_cases hq:ArL q
   ·left
    refine ⟨fun s hs=>?_,?_⟩
    ·rcases List.mem_cons.1 hs with rfl|hs
     ·exact hc
     ·exact hq s hs
    ·exact ranges_gathered_4p1_ok q 1 [] c hq hc.2 (by simp;omega)
   ·right
    exact ⟨fun h=>hq fun s hs=>h s (List.mem_cons_of_mem _ hs),ranges_gathered_4p1_bad q 1 [c] hq⟩
  ·right
   refine ⟨fun h=>hc (h c List.mem_cons_self),?_⟩
   cases h1:zq c.lo with
   |false=>rfl
   |true =>
    cases h2:zq c.hi with
    |false=>rfl
    |true=>exact absurd ⟨area_iff.1 h1,area_iff.1 h2⟩ hc

end Go.VS

namespace Go.VS
open Go
theorem flat_cons_emp {α:Type} {f:α→List Sn} {x:α} {l:List α} (h:(f x).isEmpty=true):(x::l).flatMap f=l.flatMap f:=by
 have:f x=[]:=by simpa using h
 rw [List.flatMap_cons,this];rfl

def ya (x y:Sn):List Sn:=((za x y).1).l
theorem ranges_pairs_6p4_eq (x:Sn):∀(l v:List Sn),yg x l v=.x0 (v++l.flatMap (ya x))
 |[],v=>by simp [yg]
 |y::l,v=>by
  unfold yg
  rw [emp_app (fun z=>yg x l z),ranges_pairs_6p4_eq x l _,List.flatMap_cons,List.append_assoc];rfl
theorem ranges_pairs_6p5a_eq (x:Sn):∀(l v:List Sn),yn x l v=.x0 (v++l.flatMap (ya x))
 |[],v=>by simp [yn]
 |y::l,v=>by
  unfold yn
  rw [emp_app (fun z=>yn x l z),ranges_pairs_6p5a_eq x l _,List.flatMap_cons,List.append_assoc];rfl
theorem ranges_pairs_6p5_eq (x:Sn):∀(l:List Sn),(l.flatMap (ya x)=[]∧ranges_pairs_6p5 x l=.x1)∨(l.flatMap (ya x)≠[]∧ranges_pairs_6p5 x l=.x0 (l.flatMap (ya x)))
 |[]=>.inl ⟨rfl,rfl⟩
 |y::l=>by
  unfold ranges_pairs_6p5
  cases h:(((za x y).1).l).isEmpty with
  |true =>
   rw [flat_cons_emp (f:=ya x) h]
   exact ranges_pairs_6p5_eq x l
  |false =>
   right
   simp only [cond_false]
   rw [ranges_pairs_6p5a_eq,List.flatMap_cons]
   refine ⟨fun k=>?_,rfl⟩
   have:=(List.append_eq_nil_iff.1 k).1
   have h2:((za x y).1).l=[]:=this
   rw [h2] at h;cases h
theorem ranges_pairs_3p2a_eq (b:GS Sn):∀(l v:List Sn),ranges_pairs_3p2a b l v=.x0 (v++yd l b.l ya)
 |[],v=>by simp [ranges_pairs_3p2a,yd]
 |x::l,v=>by
  unfold ranges_pairs_3p2a
  rw [ranges_pairs_6p4_eq]
  dsimp only
  rw [ranges_pairs_3p2a_eq b l _,List.append_assoc];rfl
theorem ranges_pairs_3p2_eq (b:GS Sn):∀(l:List Sn),(yd l b.l ya=[]∧ranges_pairs_3p2 b l=.x1)∨(yd l b.l ya≠[]∧ranges_pairs_3p2 b l=.x0 (yd l b.l ya))
 |[]=>.inl ⟨rfl,rfl⟩
 |x::l=>by
  unfold ranges_pairs_3p2
  have e:yd (x::l) b.l ya=b.l.flatMap (ya x)++yd l b.l ya:=rfl
  rw [e]
  rcases ranges_pairs_6p5_eq x b.l with ⟨h1,h2⟩|⟨h1,h2⟩<;>rw [h2]<;>dsimp only
  ·rw [h1]
   exact ranges_pairs_3p2_eq b l
  ·right
   rw [ranges_pairs_3p2a_eq]
   exact ⟨fun k=>h1 (List.append_eq_nil_iff.1 k).1,rfl⟩

def yi (x y:Sn):List Sn:=((zb x y).1).l
theorem ranges_pairs_6p6_eq (x:Sn):∀(l v:List Sn),yh x l v=.x0 (v++l.flatMap (yi x))
 |[],v=>by simp [yh]
 |y::l,v=>by
  unfold yh
  rw [emp_app (fun z=>yh x l z),ranges_pairs_6p6_eq x l _,List.flatMap_cons,List.append_assoc];rfl
theorem ranges_pairs_6p7a_eq (x:Sn):∀(l v:List Sn),yo x l v=.x0 (v++l.flatMap (yi x))
 |[],v=>by simp [yo]
 |y::l,v=>by
  unfold yo
  rw [emp_app (fun z=>yo x l z),ranges_pairs_6p7a_eq x l _,List.flatMap_cons,List.append_assoc];rfl
theorem ranges_pairs_6p7_eq (x:Sn):∀(l:List Sn),(l.flatMap (yi x)=[]∧ranges_pairs_6p7 x l=.x1)∨(l.flatMap (yi x)≠[]∧ranges_pairs_6p7 x l=.x0 (l.flatMap (yi x)))
 |[]=>.inl ⟨rfl,rfl⟩
 |y::l=>by
  unfold ranges_pairs_6p7
  cases h:(((zb x y).1).l).isEmpty with
  |true =>
   rw [flat_cons_emp (f:=yi x) h]
   exact ranges_pairs_6p7_eq x l
  |false =>
   right
   simp only [cond_false]
   rw [ranges_pairs_6p7a_eq,List.flatMap_cons]
   refine ⟨fun k=>?_,rfl⟩
   have:=(List.append_eq_nil_iff.1 k).1
   have h2:((zb x y).1).l=[]:=this
   rw [h2] at h;cases h
theorem ranges_pairs_3p3a_eq (b:GS Sn):∀(l v:List Sn),ranges_pairs_3p3a b l v=.x0 (v++yd l b.l yi)
 |[],v=>by simp [ranges_pairs_3p3a,yd]
 |x::l,v=>by
  unfold ranges_pairs_3p3a
  rw [ranges_pairs_6p6_eq]
  dsimp only
  rw [ranges_pairs_3p3a_eq b l _,List.append_assoc];rfl
theorem ranges_pairs_3p3_eq (b:GS Sn):∀(l:List Sn),(yd l b.l yi=[]∧ranges_pairs_3p3 b l=.x1)∨(yd l b.l yi≠[]∧ranges_pairs_3p3 b l=.x0 (yd l b.l yi))
 |[]=>.inl ⟨rfl,rfl⟩
 |x::l=>by
  unfold ranges_pairs_3p3
  have e:yd (x::l) b.l yi=b.l.flatMap (yi x)++yd l b.l yi:=rfl
  rw [e]
  rcases ranges_pairs_6p7_eq x b.l with ⟨h1,h2⟩|⟨h1,h2⟩<;>rw [h2]<;>dsimp only
  ·rw [h1]
   exact ranges_pairs_3p3_eq b l
  ·right
   rw [ranges_pairs_3p3a_eq]
   exact ⟨fun k=>h1 (List.append_eq_nil_iff.1 k).1,rfl⟩

end Go.VS

namespace Go.VS
open Go
def GR (l:List Sn) (res:GS Sn × Int):Prop:=(ArL l∧(can zx l).length≤64∧res.1.l=can zx l∧res.2=0)∨((¬ArL l∨64 < (can zx l).length)∧res=(GS.nil,2))
theorem can_nil:can zx []=[]:=by
 have:zB zx []=[]:=List.length_eq_zero_iff.1 (by rw [srtG_len gcmp_lo];rfl)
 unfold can;rw [this];rfl
theorem GR_nil:GR [] (GS.nil,0):=.inl ⟨(fun s hs=>by cases hs),by rw [can_nil];simp,by rw [can_nil];rfl,rfl⟩
theorem GR_end {l:List Sn} (h:ArL l):GR l (bif decide ((((can zx l).length:Nat):Int)>64) then (GS.nil,2) else (GS.some (can zx l),0)):=by
 cases hd:decide ((((can zx l).length:Nat):Int)>64) with
 |true=>have:=of_decide_eq_true hd;exact .inr ⟨.inr (by omega),rfl⟩
 |false=>have:=of_decide_eq_false hd;exact .inl ⟨h,by omega,rfl,rfl⟩
theorem pairs_congr {a b:List Sn} {f g:Sn→Sn→List Sn} (h:∀s∈a,∀t∈b,f s t=g s t):yd a b f=yd a b g:=by
 unfold yd
 induction a with
 |nil=>rfl
 |cons s a ih =>
  rw [List.flatMap_cons,List.flatMap_cons,ih fun s hs=>h s (List.mem_cons_of_mem _ hs)]
  congr 1
  have hs:=h s List.mem_cons_self
  clear ih h
  induction b with
  |nil=>rfl
  |cons t b ih=>rw [List.flatMap_cons,List.flatMap_cons,hs t List.mem_cons_self,ih fun t ht=>hs t (List.mem_cons_of_mem _ ht)]
theorem pairs_small {a b:List Sn} {f:Sn→Sn→List Sn} (h:∀s t,(f s t).length≤1) (ha:a.length≤64) (hb:b.length≤65):(yd a b f).length≤1099511627776:=by
 have:=pairs_len (a:=a) (b:=b) h
 have h2:a.length * b.length≤64 * 65:=Nat.mul_le_mul ha hb
 omega
def Res (S:Int→Prop) (res:GS Sn × Int):Prop:=(res.2=0∧Ok res.1.l∧Rg S res.1.l)∨res=(GS.nil,2)
theorem GR.res {l:List Sn} {res:GS Sn × Int} (hl:∀s∈l,s.lo≤s.hi) (h:GR l res):Res (In l) res:=by
 rcases h with ⟨h1,h2,h3,h4⟩|⟨_,h⟩
 ·left
  have k:=can_rg gcmp_lo hl
  rw [h3]
  refine ⟨h4,⟨k.1,cn_bd k.1 fun x hx=>?_,h2⟩,k⟩
  obtain ⟨s,hs,a,b⟩:=(k.2 x).1 hx
  have:=h1 s hs
  unfold Ar at this
  omega
 ·exact .inr h
theorem Res.congr {S T:Int→Prop} {res:GS Sn × Int} (h:Res S res) (e:∀x,S x↔T x):Res T res:=h.imp (fun ⟨a,b,c⟩=>⟨a,b,c.congr e⟩) id

theorem Common_no {a b:GS Sn} (h:¬(Ok a.l∧Ok b.l)):zQ a b=(GS.nil,20):=by
 unfold zQ
 have e:zJ (GS.some [a,b])=20:=by
  rw [← ym,← ym] at h
  rw [check2]
  cases ha:zC a<;>cases hb:zC b<;>simp [ha,hb] at h ⊢
 rw [e];rfl
theorem Common_gr {a b:GS Sn} (ha:Ok a.l) (hb:Ok b.l):GR (yd a.l b.l comF) (zQ a b):=by
 have hbo:b.l=b.l:=rfl
 have hf:yd a.l b.l ya=yd a.l b.l comF:=pairs_congr fun s hs t ht=>by
  unfold ya za comF
  dsimp only
  rw [imax_eq,imin_eq,some_l]
 unfold zQ
 rw [check2_iff.2 ⟨ha,hb⟩]
 simp only [bne_self_eq_false,cond_false]
 have k:=ranges_pairs_3p2_eq b a.l
 rw [hbo,hf] at k
 rcases k with ⟨k1,k2⟩|⟨k1,k2⟩<;>rw [k2]<;>dsimp only
 ·rw [k1];exact GR_nil
 ·generalize hq:yd a.l b.l comF=q at *
  have hlen:q.length≤1099511627776:=by
   rw [← hq]
   exact pairs_small (fun s t=>some_len) ha.2.2 (by have:=hb.2.2;omega)
  rcases ranges_gathered_4p1_at k1 hlen with ⟨g1,g2⟩|⟨g1,g2⟩
  ·rw [g2];exact GR_end g1
  ·refine .inr ⟨.inl g1,?_⟩
   revert g2
   cases zY (zB zx q) 0<;>intro g2<;>first|rfl|cases g2

theorem Minus_no {a b:GS Sn} (h:¬(Ok a.l∧Ok b.l)):y5 a b=(GS.nil,20):=by
 unfold y5
 have e:zJ (GS.some [a,b])=20:=by
  rw [← ym,← ym] at h
  rw [check2]
  cases ha:zC a<;>cases hb:zC b<;>simp [ha,hb] at h ⊢
 rw [e];rfl
theorem Minus_gr {a b:GS Sn} (ha:Ok a.l) (hb:Ok b.l):GR (yd a.l (outS (-1099511627776) b.l) comF) (y5 a b):=by
 have hbo:(zc b).l=(outS (-1099511627776) b.l):=outside_eq hb.2.1
 have hf:yd a.l (outS (-1099511627776) b.l) yi=yd a.l (outS (-1099511627776) b.l) comF:=pairs_congr fun s hs t ht=>by
  unfold yi zb comF
  dsimp only
  rw [imax_eq,imin_eq,some_l]
 unfold y5
 rw [check2_iff.2 ⟨ha,hb⟩]
 simp only [bne_self_eq_false,cond_false]
 have k:=ranges_pairs_3p3_eq (zc b) a.l
 rw [hbo,hf] at k
 rcases k with ⟨k1,k2⟩|⟨k1,k2⟩<;>rw [k2]<;>dsimp only
 ·rw [k1];exact GR_nil
 ·generalize hq:yd a.l (outS (-1099511627776) b.l) comF=q at *
  have hlen:q.length≤1099511627776:=by
   rw [← hq]
   exact pairs_small (fun s t=>some_len) ha.2.2 (by have:=out_len b.l (-1099511627776);have:=hb.2.2;omega)
  rcases ranges_gathered_4p1_at k1 hlen with ⟨g1,g2⟩|⟨g1,g2⟩
  ·rw [g2];exact GR_end g1
  ·refine .inr ⟨.inl g1,?_⟩
   revert g2
   cases zY (zB zx q) 0<;>intro g2<;>first|rfl|cases g2

end Go.VS

namespace Go.VS
open List (length_append length_cons length_nil length_drop)
open Go
def mrg:List Sn→List Sn→List Sn
 |[],q=>q
 |p,[]=>p
 |a::p,b::q=>if a.lo≤b.lo then a::mrg p (b::q) else b::mrg (a::p) q
termination_by p q=>p.length+q.length
theorem mrg_nil (p:List Sn):mrg p []=p:=by cases p<;>simp [mrg]
theorem nil_mrg (q:List Sn):mrg [] q=q:=by simp [mrg]
theorem mrg_cons (a b:Sn) (p q:List Sn):mrg (a::p) (b::q)=if a.lo≤b.lo then a::mrg p (b::q) else b::mrg (a::p) q:=by rw [mrg]
theorem mrg_perm:∀(p q:List Sn),List.Perm (mrg p q) (p++q)
 |[],q=>by rw [nil_mrg];exact List.Perm.refl _
 |a::p,[]=>by rw [mrg_nil,List.append_nil]
 |a::p,b::q=>by
  rw [mrg_cons]
  split
  ·exact (mrg_perm p (b::q)).cons a
  ·exact ((mrg_perm (a::p) q).cons b).trans (List.perm_middle.symm)
termination_by p q=>p.length+q.length
theorem mrg_srt:∀(p q:List Sn),srtS p→srtS q→srtS (mrg p q)
 |[],q,_,hq=>by rw [nil_mrg];exact hq
 |a::p,[],hp,_=>by rw [mrg_nil];exact hp
 |a::p,b::q,hp,hq=>by
  rw [mrg_cons]
  have ha:=List.pairwise_cons.1 hp
  have hb:=List.pairwise_cons.1 hq
  split
  ·rename_i h
   refine List.pairwise_cons.2 ⟨fun s hs=>?_,mrg_srt p (b::q) ha.2 hq⟩
   rcases List.mem_append.1 ((mrg_perm p (b::q)).mem_iff.1 hs) with k|k
   ·exact ha.1 s k
   ·rcases List.mem_cons.1 k with rfl|k
    ·exact h
    ·have:=hb.1 s k;omega
  ·rename_i h
   refine List.pairwise_cons.2 ⟨fun s hs=>?_,mrg_srt (a::p) q hp hb.2⟩
   rcases List.mem_append.1 ((mrg_perm (a::p) q).mem_iff.1 hs) with k|k
   ·rcases List.mem_cons.1 k with rfl|k
    ·omega
    ·have:=ha.1 s k;omega
   ·exact hb.1 s k
termination_by p q=>p.length+q.length
theorem cn_srt:∀{l:List Sn},cn l→srtS l
 |[],_=>List.Pairwise.nil
 |s::l,h=>List.pairwise_cons.2 ⟨fun t ht=>by
   have:=h.2.1 t ht
   have:=h.1
   omega,cn_srt h.2.2⟩
def Bd (l:List Sn):Prop:=∀s∈l,-2305843009213693952≤s.lo∧s.lo≤s.hi∧s.hi≤2305843009213693952
section
variable {β:Type} (F:List Sn→β) {v:List Sn} {c x:Sn}
theorem stp (hc:-2305843009213693952≤c.hi∧c.hi≤2305843009213693952) (hv:v.length≤4611686018427387904) :
  (bif decide ((((v++[c]).length:Nat):Int)>0) then
   bif decide (x.lo≤(w64 ((((v++[c]).getD ((w64 ((((v++[c]).length:Nat):Int) - 1)).toNat) default).hi)+1))) then
    F ((v++[c]).set ((w64 ((((v++[c]).length:Nat):Int) - 1)).toNat) (⟨((v++[c]).getD ((w64 ((((v++[c]).length:Nat):Int) - 1)).toNat) default).lo,zN (((v++[c]).getD ((w64 ((((v++[c]).length:Nat):Int) - 1)).toNat) default).hi) (x.hi)⟩:Sn))
   else F (v++[c]++[x])
  else F (v++[c]++[x]))=if x.lo≤c.hi+1 then F (v++[⟨c.lo,max c.hi x.hi⟩]) else F (v++[c]++[x]):=by
 have hl:w64 ((((v++[c]).length:Nat):Int) - 1)=(v.length:Int):=by
  rcases len_last (v:=v) (c:=c) with e|e
  ·exact e
  ·omega
 have hp:decide ((((v++[c]).length:Nat):Int)>0)=true:=decide_eq_true (by simp only [length_append,length_cons,length_nil];omega)
 rw [hl,hp,Int.toNat_natCast,getD_last,set_last,w64_eq (by omega) (by omega),imax_eq]
 by_cases h:x.lo≤c.hi+1
 ·rw [decide_eq_true h,if_pos h];rfl
 ·rw [decide_eq_false h,if_neg h];rfl
end
theorem at_drop {p:GS Sn} {i:Nat} {a:Sn} {l:List Sn} (h:p.l.drop i=a::l):GS.at p (i:Int)=a:=by
 unfold GS.at
 rw [Int.toNat_natCast,List.getD_eq_getElem?_getD]
 have:p.l[i]?=some a:=by rw [← List.head?_drop,h];rfl
 rw [this];rfl
theorem drop_lt {p:List Sn} {i:Nat} {a:Sn} {l:List Sn} (h:p.drop i=a::l):i < p.length∧p.drop (i+1)=l:=by
 constructor
 ·rcases Nat.lt_or_ge i p.length with k|k
  ·exact k
  ·rw [List.drop_of_length_le k] at h;cases h
 ·rw [← List.drop_drop,h];rfl
theorem bd_drop {l:List Sn} (h:Bd l) {i:Nat} {a:Sn} {r:List Sn} (e:l.drop i=a::r):-2305843009213693952≤a.lo∧a.lo≤a.hi∧a.hi≤2305843009213693952 :=
 h a (List.mem_of_mem_drop (by rw [e];exact List.mem_cons_self))
section
variable {p q:GS Sn} (hp:p.l.length≤1073741824) (hq:q.l.length≤1073741824) (bp:Bd p.l) (bq:Bd q.l)
include hp hq bp bq
theorem join8a:∀(n i k:Nat) (v:List Sn) (c:Sn),(p.l.drop i).length+(q.l.drop k).length < n→i≤p.l.length→k≤q.l.length→v.length≤4294967296+i+k→(-2305843009213693952≤c.hi∧c.hi≤2305843009213693952) →
  ∃i' k',zV p q n (v++[c]) (i:Int) (k:Int)=.x0 (v++jn c (mrg (p.l.drop i) (q.l.drop k))) i' k'
 |0,i,k,v,c,h,_,_,_,_=>by omega
 |n+1,i,k,v,c,h,hi,hk,hv,hc=>by
  have stepP:∀a l,p.l.drop i=a::l→∀r,jn c (a::r)=(if a.lo≤c.hi+1 then jn ⟨c.lo,max c.hi a.hi⟩ r else c::jn a r):=fun a l _ r=>rfl
  have wi:i < p.l.length→w64 ((i:Int)+1)=((i+1:Nat):Int):=fun h=>by rw [w64_eq (by omega) (by omega)];omega
  have wk:k < q.l.length→w64 ((k:Int)+1)=((k+1:Nat):Int):=fun h=>by rw [w64_eq (by omega) (by omega)];omega
  have takeP:∀a l,p.l.drop i=a::l→∃i' k',(if a.lo≤c.hi+1 then zV p q n (v++[⟨c.lo,max c.hi a.hi⟩]) ((i+1:Nat):Int) (k:Int) else zV p q n (v++[c]++[a]) ((i+1:Nat):Int) (k:Int))=.x0 (v++jn c (a::mrg l (q.l.drop k))) i' k':=fun a l e=>by
   obtain ⟨h1,h2⟩:=drop_lt e
   have hb:=bd_drop bp e
   have hlen:(p.l.drop (i+1)).length+(q.l.drop k).length < n:=by rw [e] at h;rw [h2];simp only [length_cons] at h;omega
   unfold jn
   split
   ·obtain ⟨i',k',e1⟩:=join8a n (i+1) k v ⟨c.lo,max c.hi a.hi⟩ hlen (by omega) hk (by omega) (by simp only;omega)
    rw [h2] at e1
    exact ⟨i',k',e1⟩
   ·obtain ⟨i',k',e1⟩:=join8a n (i+1) k (v++[c]) a hlen (by omega) hk (by simp only [length_append,length_cons,length_nil];omega) (by omega)
    rw [h2,List.append_assoc] at e1
    exact ⟨i',k',by rw [List.append_assoc] at e1 ⊢;exact e1⟩
  have takeQ:∀b l,q.l.drop k=b::l→∃i' k',(if b.lo≤c.hi+1 then zV p q n (v++[⟨c.lo,max c.hi b.hi⟩]) (i:Int) ((k+1:Nat):Int) else zV p q n (v++[c]++[b]) (i:Int) ((k+1:Nat):Int))=.x0 (v++jn c (b::mrg (p.l.drop i) l)) i' k':=fun b l e=>by
   obtain ⟨h1,h2⟩:=drop_lt e
   have hb:=bd_drop bq e
   have hlen:(p.l.drop i).length+(q.l.drop (k+1)).length < n:=by rw [e] at h;rw [h2];simp only [length_cons] at h;omega
   unfold jn
   split
   ·obtain ⟨i',k',e1⟩:=join8a n i (k+1) v ⟨c.lo,max c.hi b.hi⟩ hlen hi (by omega) (by omega) (by simp only;omega)
    rw [h2] at e1
    exact ⟨i',k',e1⟩
   ·obtain ⟨i',k',e1⟩:=join8a n i (k+1) (v++[c]) b hlen hi (by omega) (by simp only [length_append,length_cons,length_nil];omega) (by omega)
    rw [h2,List.append_assoc] at e1
    exact ⟨i',k',by rw [List.append_assoc] at e1 ⊢;exact e1⟩
  unfold zV
  have fP:=fun (x:Sn)=>stp (F:=fun z=>zV p q n z (w64 ((i:Int)+1)) (k:Int)) (v:=v) (c:=c) (x:=x) hc (by omega)
  have fQ:=fun (x:Sn)=>stp (F:=fun z=>zV p q n z (i:Int) (w64 ((k:Int)+1))) (v:=v) (c:=c) (x:=x) hc (by omega)
  cases eP:p.l.drop i with
  |nil =>
   have hip:¬i < p.l.length:=fun h=>by have:=congrArg List.length eP;simp at this;omega
   rw [decide_eq_false (show ¬(i:Int) < (p.l.length:Int) by omega),cond_false]
   cases eQ:q.l.drop k with
   |nil =>
    have hkq:¬k < q.l.length:=fun h=>by have:=congrArg List.length eQ;simp at this;omega
    rw [decide_eq_false (show ¬(k:Int) < (q.l.length:Int) by omega),cond_false,mrg_nil]
    exact ⟨_,_,rfl⟩
   |cons b l =>
    obtain ⟨h1,h2⟩:=drop_lt eQ
    have hne:((k:Int) == (q.l.length:Int))=false:=beq_eq_false_iff_ne.2 (by omega)
    rw [decide_eq_true (show (k:Int) < (q.l.length:Int) by omega),cond_true,hne,cond_false,at_drop eQ]
    have:=fQ b
    try dsimp only at this
    rw [this,wk h1,nil_mrg]
    have t:=takeQ b l eQ
    rw [eP,nil_mrg] at t
    exact t
  |cons a l =>
   obtain ⟨h1,h2⟩:=drop_lt eP
   rw [decide_eq_true (show (i:Int) < (p.l.length:Int) by omega),cond_true]
   cases eQ:q.l.drop k with
   |nil =>
    have hkq:¬k < q.l.length:=fun h=>by have:=congrArg List.length eQ;simp at this;omega
    have he:((k:Int) == (q.l.length:Int))=true:=by rw [beq_iff_eq];omega
    rw [he,cond_true,at_drop eP]
    have:=fP a
    try dsimp only at this
    rw [this,wi h1,mrg_nil]
    have t:=takeP a l eP
    rw [eQ,mrg_nil] at t
    exact t
   |cons b l' =>
    obtain ⟨k1,k2⟩:=drop_lt eQ
    have hne:((k:Int) == (q.l.length:Int))=false:=beq_eq_false_iff_ne.2 (by omega)
    rw [hne,cond_false,at_drop eP,at_drop eQ,mrg_cons]
    by_cases hab:a.lo≤b.lo
    ·rw [decide_eq_true hab,cond_true,if_pos hab]
     have:=fP a
     try dsimp only at this
     rw [this,wi h1]
     have t:=takeP a l eP
     rw [eQ] at t
     exact t
    ·rw [decide_eq_false hab,cond_false,if_neg hab]
     have:=fQ b
     try dsimp only at this
     rw [this,wk k1]
     have t:=takeQ b l' eQ
     rw [eP] at t
     exact t
theorem join8:(mrg p.l q.l=[]∧r_Join_8 p q (p.l.length+q.l.length+1)=.x1)∨∃i' k',r_Join_8 p q (p.l.length+q.l.length+1)=.x0 (jnL (mrg p.l q.l)) i' k':=by
 unfold r_Join_8
 dsimp only
 have one:∀(i k:Nat) (c:Sn) (r:List Sn),i+k=1→i≤p.l.length→k≤q.l.length→(-2305843009213693952≤c.lo∧c.lo≤c.hi∧c.hi≤2305843009213693952)→mrg p.l q.l=c::mrg (p.l.drop i) (q.l.drop k)→∃i' k',zV p q (p.l.length+q.l.length) [c] (i:Int) (k:Int)=.x0 (jnL (mrg p.l q.l)) i' k':=fun i k c r hs hi hk hc e=>by
  obtain ⟨i',k',e1⟩:=join8a hp hq bp bq (p.l.length+q.l.length) i k [] c (by simp only [length_drop];omega) hi hk (by simp) (by omega)
  exact ⟨i',k',by rw [e];exact e1⟩
 cases eP:p.l with
 |nil =>
  simp only [length_nil,Int.natCast_zero,Int.lt_irrefl,decide_false,cond_false,Nat.zero_add]
  cases eQ:q.l with
  |nil=>exact .inl ⟨by rw [nil_mrg],rfl⟩
  |cons b l =>
   right
   have hb:=bq b (by rw [eQ];exact List.mem_cons_self)
   have t:=one 0 1 b l rfl (by omega) (by rw [eQ];simp) hb (by rw [eP,eQ];simp [nil_mrg])
   rw [eP,eQ] at t
   have e0:GS.at q 0=b:=at_drop (i:=0) (l:=l) (by rw [List.drop_zero,eQ])
   have h1:decide ((0:Int) < (((b::l).length:Nat):Int))=true:=decide_eq_true (by simp only [length_cons];omega)
   have h2:((0:Int) == (((b::l).length:Nat):Int))=false:=beq_eq_false_iff_ne.2 (by simp only [length_cons];omega)
   rw [h1,h2,e0]
   simp only [length_nil,Nat.zero_add] at t
   exact t
 |cons a l =>
  right
  have ha:=bp a (by rw [eP];exact List.mem_cons_self)
  have e0:GS.at p 0=a:=at_drop (i:=0) (l:=l) (by rw [List.drop_zero,eP])
  have h1:decide ((0:Int) < (((a::l).length:Nat):Int))=true:=decide_eq_true (by simp only [length_cons];omega)
  rw [h1,e0,cond_true]
  cases eQ:q.l with
  |nil =>
   have t:=one 1 0 a l rfl (by rw [eP];simp) (by omega) ha (by rw [eP,eQ];simp [mrg_nil])
   rw [eP,eQ] at t
   exact t
  |cons b l' =>
   have hb:=bq b (by rw [eQ];exact List.mem_cons_self)
   have f0:GS.at q 0=b:=at_drop (i:=0) (l:=l') (by rw [List.drop_zero,eQ])
   have h2:((0:Int) == (((b::l').length:Nat):Int))=false:=beq_eq_false_iff_ne.2 (by simp only [length_cons];omega)
   rw [h2,f0,cond_false]
   by_cases hab:a.lo≤b.lo
   ·rw [decide_eq_true hab,cond_true]
    have t:=one 1 0 a l rfl (by rw [eP];simp) (by omega) ha (by rw [eP,eQ,mrg_cons,if_pos hab];rfl)
    rw [eP,eQ] at t
    exact t
   ·rw [decide_eq_false hab,cond_false]
    have t:=one 0 1 b l' rfl (by omega) (by rw [eQ];simp) hb (by rw [eP,eQ,mrg_cons,if_neg hab];rfl)
    rw [eP,eQ] at t
    exact t
end
theorem jn_len:∀(l:List Sn) (c:Sn),(jn c l).length≤l.length+1
 |[],c=>Nat.le_refl _
 |x::l,c=>by
  unfold jn
  split
  ·have:=jn_len l ⟨c.lo,max c.hi x.hi⟩;simp only [length_cons];omega
  ·have:=jn_len l x;simp only [length_cons];omega
theorem can_len (l:List Sn):(can zx l).length≤l.length:=by
 have h:=srtG_len gcmp_lo l
 unfold can jnL
 cases e:zB zx l with
 |nil=>simp
 |cons x r=>rw [e] at h;simp only [length_cons] at h;have:=jn_len r x;simp only;omega
theorem can_one (s:Sn) (h:s.lo≤s.hi):can zx [s]=[s] :=
 (can_rg gcmp_lo (by intro t ht;rw [List.mem_singleton.1 ht];exact h)).unique ⟨⟨h,(fun _ h=>by cases h),trivial⟩,fun _=>Iff.rfl⟩
theorem can_bd {l:List Sn} (h:Bd l):Bd (can zx l):=fun s hs=>by
 have hr:=can_rg gcmp_lo (l:=l) fun s hs=>(h s hs).2.1
 have hn:=cn_mem hr.1 hs
 obtain ⟨t,ht,h1,h2⟩:=(hr.2 s.lo).1 ⟨s,hs,Int.le_refl _,hn⟩
 obtain ⟨u,hu,h3,h4⟩:=(hr.2 s.hi).1 ⟨s,hs,hn,Int.le_refl _⟩
 have b1:=h t ht
 have b2:=h u hu
 omega
open Classical in
noncomputable def Jn (l:GS Sn):GS Sn:=if l.l.length≤1073741824∧Bd l.l then (if l.l.length < 2 then l else GS.some (can zx l.l)) else GS.nil
theorem Jn_len (l:GS Sn):(Jn l).l.length≤l.l.length:=by
 unfold Jn
 split
 ·split
  ·exact Nat.le_refl _
  ·exact can_len l.l
 ·simp [GS.nil]
theorem Jn_l {l:GS Sn} (h1:l.l.length≤1073741824) (h2:Bd l.l):(Jn l).l=can zx l.l:=by
 unfold Jn
 rw [if_pos ⟨h1,h2⟩]
 split
 ·rename_i h
  cases e:l.l with
  |nil=>rw [can_nil]
  |cons s r =>
   cases r with
   |nil=>rw [can_one s (h2 s (by rw [e];exact List.mem_cons_self)).2.1]
   |cons t r=>rw [e] at h;simp only [length_cons] at h;omega
 ·rfl
theorem rjoin_eq {l:GS Sn} (h1:l.l.length≤1073741824) (h2:Bd l.l):r_Join Jn l=Jn l:=by
 unfold r_Join
 by_cases h:l.l.length < 2
 ·rw [decide_eq_true (show ((l.l.length:Int) < 2) by omega),cond_true]
  unfold Jn;rw [if_pos ⟨h1,h2⟩,if_pos h]
 ·rw [decide_eq_false (show ¬((l.l.length:Int) < 2) by omega),cond_false]
  generalize hp:cutG l 0 (l.l.length / 2)=p
  generalize hq:cutG l (l.l.length / 2) l.l.length=q
  have sp:∀s∈p.l,s∈l.l:=by rw [← hp];exact cut_sub l _ _
  have sq:∀s∈q.l,s∈l.l:=by rw [← hq];exact cut_sub l _ _
  have lp:p.l.length≤1073741824:=by rw [← hp,zj];omega
  have lq:q.l.length≤1073741824:=by rw [← hq,zj];omega
  have bp:Bd p.l:=fun s hs=>h2 s (sp s hs)
  have bq:Bd q.l:=fun s hs=>h2 s (sq s hs)
  have ep:=Jn_l lp bp
  have eq:=Jn_l lq bq
  have hsplit:∀x,In l.l x↔In p.l x∨In q.l x:=fun x=>by
   rw [← In_append,← hp,← hq]
   unfold cutG
   rw [GS.some_l,GS.some_l,List.drop_zero,List.take_length,List.take_append_drop]
  have rp:=can_rg gcmp_lo (l:=p.l) fun s hs=>(bp s hs).2.1
  have rq:=can_rg gcmp_lo (l:=q.l) fun s hs=>(bq s hs).2.1
  have rl:=can_rg gcmp_lo (l:=l.l) fun s hs=>(h2 s hs).2.1
  have jp:=Jn_len p
  have jq:=Jn_len q
  have hm:Rg (In l.l) (jnL (mrg (Jn p).l (Jn q).l)):=by
   rw [ep,eq]
   refine (jnL_rg (fun s hs=>?_) (mrg_srt _ _ (cn_srt rp.1) (cn_srt rq.1))).congr fun x=>?_
   ·rcases List.mem_append.1 ((mrg_perm _ _).mem_iff.1 hs) with k|k
    ·exact cn_mem rp.1 k
    ·exact cn_mem rq.1 k
   ·rw [In_perm (mrg_perm _ _),In_append,rp.2,rq.2,hsplit]
  have hcan:=hm.unique rl
  have hne:mrg (Jn p).l (Jn q).l≠[]:=fun e=>by
   rw [e] at hm
   cases el:l.l with
   |nil=>rw [el] at h;simp at h
   |cons s r =>
    have hs:=(h2 s (by rw [el];exact List.mem_cons_self)).2.1
    exact In_nil ((hm.2 s.lo).2 ⟨s,by rw [el];exact List.mem_cons_self,Int.le_refl _,hs⟩)
  rcases join8 (p:=Jn p) (q:=Jn q) (by omega) (by omega) (by rw [ep];exact can_bd bp) (by rw [eq];exact can_bd bq) with ⟨e,_⟩|⟨i',k',e⟩
  ·exact absurd e hne
  ·rw [e]
   dsimp only
   rw [hcan]
   unfold Jn;rw [if_pos ⟨h1,h2⟩,if_neg h]
end Go.VS

namespace Go.VS
open Go
theorem r_Join_len {J:GS Sn→GS Sn} {l:GS Sn} (hl:l.l.length≤1073741824) (hJ:∀x:GS Sn,(J x).l.length≤x.l.length):(r_Join J l).l.length≤l.l.length:=by
 unfold r_Join
 by_cases h:l.l.length < 2
 ·rw [decide_eq_true (show ((l.l.length:Int) < 2) by omega),cond_true];exact Nat.le_refl _
 ·rw [decide_eq_false (show ¬((l.l.length:Int) < 2) by omega),cond_false]
  have j1:=hJ (cutG l 0 (l.l.length / 2))
  have j2:=hJ (cutG l (l.l.length / 2) l.l.length)
  rw [zj] at j1 j2
  generalize J (cutG l 0 (l.l.length / 2))=p at *
  generalize J (cutG l (l.l.length / 2) l.l.length)=q at *
  have ne:=r_Join_ne p q (by omega) (by omega)
  have k:=ivt_r_Join_8 p q _ ne (by omega) (by omega)
  cases hr:r_Join_8 p q (p.l.length+q.l.length+1) with
  |x0 v i k' =>
   rw [hr] at k
   obtain ⟨k1,k2,k3⟩:=k
   simp only [GS.some_l]
   omega
  |x1=>simp [GS.nil]
  |out=>exact absurd hr ne
def JJN:Nat→GS Sn→GS Sn
 |0,_=>GS.nil
 |n+1,l=>if l.l.length≤1073741824 then r_Join (JJN n) l else GS.nil
theorem JJN_len:∀(n:Nat) (l:GS Sn),(JJN n l).l.length≤l.l.length
 |0,l=>by simp [JJN,GS.nil]
 |n+1,l=>by
  unfold JJN
  split
  ·rename_i h;exact r_Join_len h (JJN_len n)
  ·simp [GS.nil]
def JJ (l:GS Sn):GS Sn:=JJN (l.l.length+1) l
theorem JJ_len (l:GS Sn):(JJ l).l.length≤l.l.length:=JJN_len _ l
theorem T_JJN:∀(n:Nat) (l:GS Sn),l.l.length≤n→l.l.length≤1073741824→(lim cfg).pure 75 [GS.D Sn.D 2 l]=some (GS.D Sn.D 2 (JJN (n+1) l)):=by
 intro n
 induction n with
 |zero =>
  intro l hn h1
  have e:JJN (0+1) l=r_Join (JJN 0) l:=by unfold JJN;rw [if_pos h1]
  rw [e]
  exact T_r_Join (JJN 0) l h1 (fun x hx _=>by omega) (JJN_len 0)
 |succ n ih =>
  intro l hn h1
  have e:JJN (n+1+1) l=r_Join (JJN (n+1)) l:=by unfold JJN;rw [if_pos h1]
  rw [e]
  exact T_r_Join (JJN (n+1)) l h1 (fun x hx _=>ih x (by omega) (by omega)) (JJN_len (n+1))
theorem T_JJ (l:GS Sn) (h1:l.l.length≤1073741824):(lim cfg).pure 75 [GS.D Sn.D 2 l]=some (GS.D Sn.D 2 (JJ l)):=T_JJN _ l (Nat.le_refl _) h1
theorem JJN_eq:∀(n:Nat) (l:GS Sn),l.l.length≤n→l.l.length≤1073741824→Bd l.l→JJN (n+1) l=Jn l:=by
 intro n
 induction n with
 |zero =>
  intro l hn h1 h2
  unfold JJN
  rw [if_pos h1,← rjoin_eq h1 h2]
  unfold r_Join
  have h:decide ((l.l.length:Int) < 2)=true:=decide_eq_true (by omega)
  rw [h];rfl
 |succ n ih =>
  intro l hn h1 h2
  have e:JJN (n+1+1) l=r_Join (JJN (n+1)) l:=by unfold JJN;rw [if_pos h1]
  rw [e,← rjoin_eq h1 h2]
  unfold r_Join
  by_cases h:l.l.length < 2
  ·rw [decide_eq_true (show ((l.l.length:Int) < 2) by omega)];rfl
  ·have sp:∀a b,Bd (cutG l a b).l:=fun a b s hs=>h2 s (cut_sub l _ _ s hs)
   rw [ih (cutG l 0 (l.l.length / 2)) (by rw [zj];omega) (by rw [zj];omega) (sp _ _),ih (cutG l (l.l.length / 2) l.l.length) (by rw [zj];omega) (by rw [zj];omega) (sp _ _)]
theorem JJ_l {l:GS Sn} (h1:l.l.length≤1073741824) (h2:Bd l.l):(JJ l).l=can zx l.l:=by
 unfold JJ
 rw [JJN_eq _ l (Nat.le_refl _) h1 h2,Jn_l h1 h2]
end Go.VS

namespace Go.VS
open List (length_append length_cons length_nil)
open Go Go.Proofs
def zX (l:GS Sn):(GS Sn) × Int :=
 bif decide ((l.l.length:Int)>64) then
  (GS.nil,2)
 else
  bif decide ((l.l.length:Int)>0) then
   bif decide (((GS.at l 0).lo) < (-1099511627776)) then
    (GS.nil,2)
   else
    bif decide (((GS.at l (w64 ((l.l.length:Int) - 1))).hi)>1099511627776) then
     (GS.nil,2)
    else
     (l,0)
  else
   (l,0)

def r_Fit_o1 (l:GS Sn):List Ora:=[.rw 6 (I (l.l.length:Int)),.dec false,.dec true,.el (.agg [I ((GS.at l 0).lo),I ((GS.at l 0).hi)]),.dec false,.el (.agg [I ((GS.at l (w64 ((l.l.length:Int) - 1))).lo),I ((GS.at l (w64 ((l.l.length:Int) - 1))).hi)])]

theorem T_r_Fit (l:GS Sn):(lim cfg).pure 74 [GS.D Sn.D 2 l]=some (.tup [GS.D Sn.D 2 ((zX l).1),I ((zX l).2)]):=by
 unfold zX
 cases h1:decide ((l.l.length:Int)>64) with
 |true =>
  have g1:=of_decide_eq_true h1
  exact zp [.rw 6 (I (l.l.length:Int)),.dec true] (Ai h1 (Ai (zk Sn.D l) trivial)) (by kernel_rfl)
 |false =>
  have g1:=of_decide_eq_false h1
  cases h2:decide ((l.l.length:Int)>0) with
  |true =>
   have g2:=of_decide_eq_true h2
   have p1:=(el_in (s:=l) (f:=Sn.D) (k:=2) (i:=0) (by omega) (by omega))
   cases h3:decide (((GS.at l 0).lo) < (-1099511627776)) with
   |true =>
    have g3:=of_decide_eq_true h3
    exact zp [.rw 6 (I (l.l.length:Int)),.dec false,.dec true,.el (.agg [I ((GS.at l 0).lo),I ((GS.at l 0).hi)]),.dec true] (Ai h3 (Ai p1 (Ai h2 (Ai h1 (Ai (zk Sn.D l) trivial))))) (by kernel_rfl)
   |false =>
    have g3:=of_decide_eq_false h3
    have p2:=(el_in (s:=l) (f:=Sn.D) (k:=2) (i:=w64 ((l.l.length:Int) - 1)) (by simp only [length_append,length_cons,length_nil,zd] at *<;>omega) (by simp only [length_append,length_cons,length_nil,zd] at *<;>omega))
    cases h4:decide (((GS.at l (w64 ((l.l.length:Int) - 1))).hi)>1099511627776) with
    |true =>
     have g4:=of_decide_eq_true h4
     exact zp ((r_Fit_o1 l)++[.dec true]) (Ai h4 (Ai p2 (Ai h3 (Ai p1 (Ai h2 (Ai h1 (Ai (zk Sn.D l) trivial))))))) (by kernel_rfl)
    |false =>
     have g4:=of_decide_eq_false h4
     exact zp ((r_Fit_o1 l)++[.dec false]) (Ai h4 (Ai p2 (Ai h3 (Ai p1 (Ai h2 (Ai h1 (Ai (zk Sn.D l) trivial))))))) (by kernel_rfl)
  |false =>
   have g2:=of_decide_eq_false h2
   exact zp [.rw 6 (I (l.l.length:Int)),.dec false,.dec false] (Ai h2 (Ai h1 (Ai (zk Sn.D l) trivial))) (by kernel_rfl)

end Go.VS

