/- Nothing of a statement is proved in this text alone: it is part 3 of the proof's own tools, an evaluator of the code over deep values, its soundness, and what it makes of this seat's functions. Conditions: none beyond the statement's own. -/
import Derived.Test.YtmdmclbpnkdimaaGreatDoorVsRCAro2
import Derived.Shelf.SlGeneric
import Derived.Shelf.SlLaysF0
import Derived.Ground.SlsfProg
import Derived.Shelf.Strings.OnBuilder
import Derived.Shelf.LaysM
import Derived.Shelf.Strconv.Itoa3
import Derived.Test.YtmdmclbpnkdimaaGreatDoorProg
import Derived.Lib.LaidTab
set_option linter.unusedSimpArgs false
set_option linter.unusedVariables false
namespace Go.Proofs
open Go.Shelf
def Tryz.lays156_ren:Go.Shelf.Ren:=⟨fun | 156=>99 | 165=>110 | 166=>111 | 169=>112 | 240=>121 | 241=>122 | 276=>146 | 277=>147 | n=>n,fun | 31=>91 | 9=>9 | 3=>3 | 4=>4 | 0=>0 | 20=>20 | 72=>111 | 76=>99 | 70=>108 | 37=>109 | 75=>98 | 127=>120 | 164=>145 | 5=>5 | 80=>113 | n=>n,fun | n=>n⟩
theorem Tryz.lays156:Go.Proofs.Lays.n156 Tryz.prog Tryz.lays156_ren:={
 mixed:=by kernel_rfl
 f156:=Tryz.func99.trans (congrArg some (by kernel_rfl))
 f165:=Tryz.func110.trans (congrArg some (by kernel_rfl))
 f166:=Tryz.func111.trans (congrArg some (by kernel_rfl))
 f169:=Tryz.func112.trans (congrArg some (by kernel_rfl))
 f240:=Tryz.func121.trans (congrArg some (by kernel_rfl))
 f241:=Tryz.func122.trans (congrArg some (by kernel_rfl))
 f276:=Tryz.func146.trans (congrArg some (by kernel_rfl))
 f277:=Tryz.func147.trans (congrArg some (by kernel_rfl))
 t0:=Tryz.underlying0
 a0:=Tryz.isAgg0
 z0:=Tryz.sizeOf0
 v0:=Tryz.zeroValue0
 t3:=Tryz.underlying3
 a3:=Tryz.isAgg3
 z3:=Tryz.sizeOf3
 v3:=Tryz.zeroValue3
 t4:=Tryz.underlying4
 a4:=Tryz.isAgg4
 z4:=Tryz.sizeOf4
 v4:=Tryz.zeroValue4
 t9:=Tryz.underlying9
 a9:=Tryz.isAgg9
 z9:=Tryz.sizeOf9
 v9:=Tryz.zeroValue9
 t20:=Tryz.underlying20
 a20:=Tryz.isAgg20
 z20:=Tryz.sizeOf20
 v20:=Tryz.zeroValue20
 t31:=Tryz.underlying91
 a31:=Tryz.isAgg91
 z31:=Tryz.sizeOf91
 v31:=Tryz.zeroValue91
 t37:=Tryz.underlying109
 a37:=Tryz.isAgg109
 z37:=Tryz.sizeOf109
 v37:=Tryz.zeroValue109
 t70:=Tryz.underlying108
 a70:=Tryz.isAgg108
 z70:=Tryz.sizeOf108
 v70:=Tryz.zeroValue108
 t72:=Tryz.underlying111
 a72:=Tryz.isAgg111
 z72:=Tryz.sizeOf111
 v72:=Tryz.zeroValue111
 t75:=Tryz.underlying98
 a75:=Tryz.isAgg98
 z75:=Tryz.sizeOf98
 v75:=Tryz.zeroValue98
 t76:=Tryz.underlying99
 a76:=Tryz.isAgg99
 z76:=Tryz.sizeOf99
 v76:=Tryz.zeroValue99
 t127:=Tryz.underlying120
 a127:=Tryz.isAgg120
 z127:=Tryz.sizeOf120
 v127:=Tryz.zeroValue120
 t164:=Tryz.underlying145
 a164:=Tryz.isAgg145
 z164:=Tryz.sizeOf145
 v164:=Tryz.zeroValue145 }
theorem Tryz.Builder_Extra_156:Builder.Extra Tryz.prog Tryz.lays156_ren:={
 sizeBuilder:=by kernel_rfl
 liesBuilder:=by kernel_rfl
 t5:=Tryz.underlying5
 a5:=Tryz.isAgg5
 z5:=Tryz.sizeOf5
 v5:=Tryz.zeroValue5
 infoByte:=by kernel_rfl
 cellsByte:=by kernel_rfl
 sizeByte:=by kernel_rfl
 neB5:=by decide }
open Go.RowKit in
theorem Tryz.strings_Join (bk o c:Nat) (xs:List ByteArray) (sep:ByteArray) (w:World) (hcells:∀ (j:Nat) x,xs[j]?=some x→w.cell? ⟨bk,o+j,none⟩=some (.string x)) (hbk:bk < w.heap.size) (hN:xs.length≤140737488355328) (hcap:xs.length≤c) (hlen:(Lib.join (xs.map (·.data.toList)) sep.data.toList).length≤140737488355328) :
  Calls Tryz.prog 99 #[.slice (some ⟨bk,o,none⟩) xs.length c,.string sep] w fun e w'=>e=.returned (.string ⟨(Lib.join (xs.map (·.data.toList)) sep.data.toList).toArray⟩)∧Below w.heap.size w w':=Any.strings_Join Tryz.lays156 Tryz.Builder_Extra_156 bk o c xs sep w hcells hbk hN hcap hlen
def Tryz.laysM171_ren:Go.Shelf.Ren:=⟨fun | 171=>98 | 243=>109 | 246=>120 | 283=>142 | 284=>143 | 285=>144 | 286=>145 | 129=>141 | 317=>163 | 318=>164 | 319=>165 | 320=>166 | 337=>173 | 338=>174 | n=>n,fun | 3=>3 | 9=>9 | 2=>2 | 4=>4 | 171=>141 | 0=>0 | 53=>140 | 37=>109 | 5=>5 | 173=>143 | 212=>166 | 51=>138 | 20=>20 | 213=>167 | 46=>118 | 232=>182 | 233=>183 | n=>n,fun | 17=>3 | 18=>6 | 19=>7 | n=>n⟩
theorem Tryz.laysM171:Go.Proofs.LaysM.n171 Tryz.prog Tryz.laysM171_ren:={
 mixed:=by kernel_rfl
 f129:=Tryz.func141.trans (congrArg some (by kernel_rfl))
 f171:=Tryz.func98.trans (congrArg some (by kernel_rfl))
 f243:=Tryz.func109.trans (congrArg some (by kernel_rfl))
 f246:=Tryz.func120.trans (congrArg some (by kernel_rfl))
 f283:=Tryz.func142.trans (congrArg some (by kernel_rfl))
 f284:=Tryz.func143.trans (congrArg some (by kernel_rfl))
 f285:=Tryz.func144.trans (congrArg some (by kernel_rfl))
 f286:=Tryz.func145.trans (congrArg some (by kernel_rfl))
 f317:=Tryz.func163.trans (congrArg some (by kernel_rfl))
 f318:=Tryz.func164.trans (congrArg some (by kernel_rfl))
 f319:=Tryz.func165.trans (congrArg some (by kernel_rfl))
 f320:=Tryz.func166.trans (congrArg some (by kernel_rfl))
 f337:=Tryz.func173.trans (congrArg some (by kernel_rfl))
 f338:=Tryz.func174.trans (congrArg some (by kernel_rfl))
 t0:=Tryz.underlying0
 a0:=Tryz.isAgg0
 z0:=Tryz.sizeOf0
 v0:=Tryz.zeroValue0
 t2:=Tryz.underlying2
 a2:=Tryz.isAgg2
 z2:=Tryz.sizeOf2
 v2:=Tryz.zeroValue2
 t3:=Tryz.underlying3
 a3:=Tryz.isAgg3
 z3:=Tryz.sizeOf3
 v3:=Tryz.zeroValue3
 t4:=Tryz.underlying4
 a4:=Tryz.isAgg4
 z4:=Tryz.sizeOf4
 v4:=Tryz.zeroValue4
 t5:=Tryz.underlying5
 a5:=Tryz.isAgg5
 z5:=Tryz.sizeOf5
 v5:=Tryz.zeroValue5
 t9:=Tryz.underlying9
 a9:=Tryz.isAgg9
 z9:=Tryz.sizeOf9
 v9:=Tryz.zeroValue9
 t20:=Tryz.underlying20
 a20:=Tryz.isAgg20
 z20:=Tryz.sizeOf20
 v20:=Tryz.zeroValue20
 t37:=Tryz.underlying109
 a37:=Tryz.isAgg109
 z37:=Tryz.sizeOf109
 v37:=Tryz.zeroValue109
 t46:=Tryz.underlying118
 a46:=Tryz.isAgg118
 z46:=Tryz.sizeOf118
 v46:=Tryz.zeroValue118
 t51:=Tryz.underlying138
 a51:=Tryz.isAgg138
 z51:=Tryz.sizeOf138
 v51:=Tryz.zeroValue138
 t53:=Tryz.underlying140
 a53:=Tryz.isAgg140
 z53:=Tryz.sizeOf140
 v53:=Tryz.zeroValue140
 t171:=Tryz.underlying141
 a171:=Tryz.isAgg141
 z171:=Tryz.sizeOf141
 v171:=Tryz.zeroValue141
 t173:=Tryz.underlying143
 a173:=Tryz.isAgg143
 z173:=Tryz.sizeOf143
 v173:=Tryz.zeroValue143
 t212:=Tryz.underlying166
 a212:=Tryz.isAgg166
 z212:=Tryz.sizeOf166
 v212:=Tryz.zeroValue166
 t213:=Tryz.underlying167
 a213:=Tryz.isAgg167
 z213:=Tryz.sizeOf167
 t232:=Tryz.underlying182
 a232:=Tryz.isAgg182
 z232:=Tryz.sizeOf182
 v232:=Tryz.zeroValue182
 t233:=Tryz.underlying183
 a233:=Tryz.isAgg183
 z233:=Tryz.sizeOf183
 v233:=Tryz.zeroValue183
 g17:=by kernel_rfl
 g18:=by kernel_rfl
 g19:=by kernel_rfl
 i0:=by kernel_rfl
 i2:=by kernel_rfl
 i3:=by kernel_rfl
 i4:=by kernel_rfl
 i5:=by kernel_rfl
 i9:=by kernel_rfl
 i20:=by kernel_rfl
 i37:=by kernel_rfl
 i46:=by kernel_rfl
 i51:=by kernel_rfl
 i53:=by kernel_rfl
 i171:=by kernel_rfl
 i173:=by kernel_rfl
 i212:=by kernel_rfl
 i232:=by kernel_rfl
 i233:=by kernel_rfl
 m17:=by kernel_rfl
 m18:=by kernel_rfl
 m19:=by kernel_rfl }
open Go.RowKit Go.Sort Go.Lib in
theorem Tryz.strconv_Itoa (n : Int) (h0 : -9223372036854775808 ≤ n) (h1 : n ≤ 9223372036854775807) (w : World) (htab : Lib.TabIs Tryz.prog w "internal/strconv.uint64pow10" .u64 Lib.pow10Tab) :
  Calls Tryz.prog 98 #[.int .i64 n] w fun e w'=>e=.returned (.string ⟨(Lib.itoa n).toArray⟩)∧∃ k os,w'=grow (w.drewN k) os:=Any.strconv_Itoa Tryz.laysM171 n h0 h1 w htab
def Tryz.sortP_ren:Go.Shelf.Ren:=⟨fun | 6=>103 | 15=>118 | 14=>117 | 28=>140 | 29=>141 | 20=>132 | 21=>133 | 22=>134 | 23=>135 | 24=>136 | 25=>137 | 26=>138 | 27=>139 | 46=>158 | 47=>159 | 48=>160 | 49=>161 | 50=>162 | 57=>172 | n=>n,fun | 22=>22 | 24=>25 | 25=>102 | 3=>3 | 39=>118 | 0=>0 | 53=>138 | 55=>140 | 4=>4 | 46=>131 | 45=>130 | 50=>135 | 5=>5 | 9=>9 | 66=>159 | 70=>163 | 76=>175 | 77=>176 | n=>n,fun | n=>n⟩
theorem Tryz.sortP:Go.Proofs.SlLaysF0.n6 Tryz.prog Tryz.sortP_ren:={
 mixed:=by kernel_rfl
 f6:=⟨Tryz.f103.name,by decide,Tryz.func103.trans (congrArg some (by kernel_rfl))⟩
 f14:=⟨Tryz.f117.name,by decide,Tryz.func117.trans (congrArg some (by kernel_rfl))⟩
 f15:=Tryz.func118.trans (congrArg some (by kernel_rfl))
 f20:=⟨Tryz.f132.name,by decide,Tryz.func132.trans (congrArg some (by kernel_rfl))⟩
 f21:=⟨Tryz.f133.name,by decide,Tryz.func133.trans (congrArg some (by kernel_rfl))⟩
 f22:=⟨Tryz.f134.name,by decide,Tryz.func134.trans (congrArg some (by kernel_rfl))⟩
 f23:=⟨Tryz.f135.name,by decide,Tryz.func135.trans (congrArg some (by kernel_rfl))⟩
 f24:=⟨Tryz.f136.name,by decide,Tryz.func136.trans (congrArg some (by kernel_rfl))⟩
 f25:=⟨Tryz.f137.name,by decide,Tryz.func137.trans (congrArg some (by kernel_rfl))⟩
 f26:=⟨Tryz.f138.name,by decide,Tryz.func138.trans (congrArg some (by kernel_rfl))⟩
 f27:=⟨Tryz.f139.name,by decide,Tryz.func139.trans (congrArg some (by kernel_rfl))⟩
 f28:=Tryz.func140.trans (congrArg some (by kernel_rfl))
 f29:=Tryz.func141.trans (congrArg some (by kernel_rfl))
 f46:=⟨Tryz.f158.name,by decide,Tryz.func158.trans (congrArg some (by kernel_rfl))⟩
 f47:=Tryz.func159.trans (congrArg some (by kernel_rfl))
 f48:=Tryz.func160.trans (congrArg some (by kernel_rfl))
 f49:=⟨Tryz.f161.name,by decide,Tryz.func161.trans (congrArg some (by kernel_rfl))⟩
 f50:=⟨Tryz.f162.name,by decide,Tryz.func162.trans (congrArg some (by kernel_rfl))⟩
 f57:=⟨Tryz.f172.name,by decide,Tryz.func172.trans (congrArg some (by kernel_rfl))⟩
 t0:=Tryz.underlying0
 a0:=Tryz.isAgg0
 z0:=Tryz.sizeOf0
 v0:=Tryz.zeroValue0
 t3:=Tryz.underlying3
 a3:=Tryz.isAgg3
 z3:=Tryz.sizeOf3
 v3:=Tryz.zeroValue3
 t4:=Tryz.underlying4
 a4:=Tryz.isAgg4
 z4:=Tryz.sizeOf4
 v4:=Tryz.zeroValue4
 t5:=Tryz.underlying5
 a5:=Tryz.isAgg5
 z5:=Tryz.sizeOf5
 v5:=Tryz.zeroValue5
 t9:=Tryz.underlying9
 a9:=Tryz.isAgg9
 z9:=Tryz.sizeOf9
 v9:=Tryz.zeroValue9
 t22:=Tryz.underlying22
 a22:=Tryz.isAgg22
 z22:=Tryz.sizeOf22
 v22:=Tryz.zeroValue22
 t25:=Tryz.underlying102
 a25:=Tryz.isAgg102
 z25:=Tryz.sizeOf102
 v25:=Tryz.zeroValue102
 t39:=Tryz.underlying118
 a39:=Tryz.isAgg118
 z39:=Tryz.sizeOf118
 v39:=Tryz.zeroValue118
 t45:=Tryz.underlying130
 a45:=Tryz.isAgg130
 z45:=Tryz.sizeOf130
 v45:=Tryz.zeroValue130
 t46:=Tryz.underlying131
 a46:=Tryz.isAgg131
 z46:=Tryz.sizeOf131
 v46:=Tryz.zeroValue131
 t50:=Tryz.underlying135
 a50:=Tryz.isAgg135
 z50:=Tryz.sizeOf135
 v50:=Tryz.zeroValue135
 t53:=Tryz.underlying138
 a53:=Tryz.isAgg138
 z53:=Tryz.sizeOf138
 v53:=Tryz.zeroValue138
 t55:=Tryz.underlying140
 a55:=Tryz.isAgg140
 z55:=Tryz.sizeOf140
 v55:=Tryz.zeroValue140
 t66:=Tryz.underlying159
 a66:=Tryz.isAgg159
 z66:=Tryz.sizeOf159
 v66:=Tryz.zeroValue159
 t70:=Tryz.underlying163
 a70:=Tryz.isAgg163
 z70:=Tryz.sizeOf163
 v70:=Tryz.zeroValue163
 t76:=Tryz.underlying175
 a76:=Tryz.isAgg175
 z76:=Tryz.sizeOf175
 v76:=Tryz.zeroValue175
 t77:=Tryz.underlying176
 a77:=Tryz.isAgg176
 z77:=Tryz.sizeOf176
 v77:=Tryz.zeroValue176 }
end Go.Proofs

namespace Go.VS
open Go Go.RowKit Go.Proofs Go.Sort Go.Shelf
section
variable {C:Cfg}
theorem mok_keep {M:Mem} {w w':World} (h:MOK M w) (hk:∀ b,b < w.heap.size→w'.heap[b]?=w.heap[b]?):MOK M w':=fun b i v hv=>by
 have h1:=h b i v hv
 have hb:=World.block_lt_of_cell? w _ h1
 unfold World.cell? at h1 ⊢
 rw [hk b hb]; exact h1
theorem inl_of_pure {K:FuncId} {args:List D} (h:PureOK C K args (.tup [])) (hn:∀ (M:Mem) (m:Loc) (vs:List Value),zU M m args vs→zU M noLoc args vs) (nxt:Nat):InlOK C K args [] nxt (.tup []) [] nxt:=fun E M m w vs hR hG hA hf ho=>by
 refine (h M w vs hR.mok hG hR.tab (hn M m _ hA)).mono ?_
 rintro e w' ⟨v,M',rfl,_,_,k3,k4,k5,k6,k7,k8,_⟩
 refine ⟨v,M,m,rfl,MLe.refl _,fun _ _=>rfl,fun x h1 h2=>hf x h2,?_,?_⟩
 ·simp only [Rep] at k3 ⊢
  obtain ⟨xs,rfl,hx⟩:=k3
  exact ⟨xs,rfl,hx⟩
 ·exact ⟨⟨k4.1.trans hR.os.1,fun q=>Nat.le_trans (hR.os.2 q) (k4.2 q)⟩,k5.trans hR.tape,k6.trans hR.output,Nat.le_trans hR.size k7,fun b hb=>(k8 b (Nat.lt_of_lt_of_le (hR.frlt b hb) hR.size)).trans (hR.keep b hb),hR.frlt,hR.mfr,mok_keep hR.mok k8,
   ⟨fun o ob h=>by simp [zB] at h,fun o ob h=>by simp [zB] at h,fun o o' ob ob' b s s' h=>by simp [zB] at h,fun o ob b s h=>by simp [zB] at h⟩⟩
theorem pure_string (hd:C.dr=false) {K:FuncId} {args:List D} {s:ByteArray} (h:∀ (M:Mem) (w:World) (vs:Array Value),MOK M w→TabOK C w→zU M noLoc args vs.toList →
  Calls C.P K vs w fun e w'=>e=.returned (.string s)∧Below w.heap.size w w'):PureOK C K args (.val (.string s)):=fun M w vs h1 _ h3 h4=>by
 refine (h M w vs h1 h3 h4).mono ?_
 rintro e w' ⟨rfl,k⟩
 exact ⟨_,M,rfl,MLe.refl _,mok_keep h1 k.block,by simp only [Rep],⟨k.os,fun q=>by rw [hd] at q; cases q⟩,k.tape,k.output,k.size,k.block,fun _ _ _=>rfl⟩
def unS:D→Option ByteArray
 | .val v=>match v with
  | .string s=>some s
  | _=>none
 | _=>none
def unSs:List D→Option (List ByteArray)
 | []=>some []
 | d::ds=>match unS d,unSs ds with
  | some x,some l=>some (x::l)
  | _,_=>none
theorem unS_eq {d:D} {s:ByteArray} (h:unS d=some s):d=.val (.string s):=by
 unfold unS at h
 split at h
 ·split at h
  ·cases h; rfl
  ·cases h
 ·cases h
theorem unSs_eq:∀ {ds:List D} {l:List ByteArray},unSs ds=some l→ds=l.map fun s=>.val (.string s)
 | [],l,h=>by simp [unSs] at h; subst h; rfl
 | d::ds,l,h=>by
  unfold unSs at h
  split at h
  ·rename_i e1 e2; cases h; rw [unS_eq e1,unSs_eq e2]; rfl
  ·cases h
def joinX (args:List D):Option D:=match args with
 | [.sl nl els sz _,d]=>match unS d,unSs els with
  | some sep,some xs=>if nl=false∧sz=1∧xs ≠ []∧xs.length≤140737488355328∧(Lib.join (xs.map (·.data.toList)) sep.data.toList).length≤140737488355328 then
    some (.val (.string ⟨(Lib.join (xs.map (·.data.toList)) sep.data.toList).toArray⟩)) else none
  | _,_=>none
 | _=>none
theorem repE_cells {M:Mem} {w:World} (hM:MOK M w):∀ (xs:List ByteArray) (b o:Nat),RepE M (xs.map fun s=>D.val (.string s)) 1 b o→∀ (j:Nat) x,xs[j]?=some x→w.cell? ⟨b,o+j,none⟩=some (.string x)
 | [],_,_,_,j,x,hx=>by simp at hx
 | s::xs,b,o,h,j,x,hx=>by
  simp only [List.map_cons,RepE,Rep] at h
  obtain ⟨⟨u,rfl,_,hm⟩,h2⟩:=h
  cases j with
  | zero =>
   simp at hx; subst hx
   have:=hm 0 (.string s) (by simp [Value.cells])
   exact hM _ _ _ this
  | succ j =>
   have:=repE_cells hM xs b (o+1) h2 j x (by simpa using hx)
   rw [show o+(j+1)=o+1+j from by omega]; exact this
theorem joinX_ok (hd:C.dr=false) {K:FuncId} (hJ:∀ (bk o c:Nat) (xs:List ByteArray) (sep:ByteArray) (w:World),(∀ (j:Nat) x,xs[j]?=some x→w.cell? ⟨bk,o+j,none⟩=some (.string x))→bk < w.heap.size→xs.length≤140737488355328→xs.length≤c→(Lib.join (xs.map (·.data.toList)) sep.data.toList).length≤140737488355328 →
  Calls C.P K #[.slice (some ⟨bk,o,none⟩) xs.length c,.string sep] w fun e w'=>e=.returned (.string ⟨(Lib.join (xs.map (·.data.toList)) sep.data.toList).toArray⟩)∧Below w.heap.size w w')
  {args:List D} {d:D} (h:joinX args=some d):PureOK C K args d:=by
 unfold joinX at h
 split at h
 ·rename_i nl els sz cap d0
  split at h
  ·rename_i sep xs e1 e2
   split at h
   ·rename_i hc
    obtain ⟨rfl,rfl,hne,hl,hlen⟩:=hc
    cases h
    rw [unS_eq e1,unSs_eq e2]
    refine pure_string hd fun M w vs h1 _ h3=>?_
    simp only [zU,Rep] at h3
    obtain ⟨v,r,e0,⟨_,hs⟩,v2,r2,rfl,rfl,rfl⟩:=h3
    obtain ⟨b,o,sp,c,rfl,hsp,hc1,_,_,hcell⟩:=hs trivial
    have hsp':sp=none:=hsp (by simpa using hne)
    subst hsp'
    have hvs:vs=#[.slice (some ⟨b,o,none⟩) xs.length c,.string sep]:=by
     cases vs
     simp only [] at e0
     subst e0
     simp
    rw [hvs]
    have hcells:=repE_cells h1 xs b o hcell
    refine hJ b o c xs sep w hcells ?_ hl (by simpa using hc1) hlen
    cases xs with
    | nil=>exact absurd rfl hne
    | cons x xs=>exact World.block_lt_of_cell? w _ (hcells 0 x rfl)
   ·cases h
  ·cases h
 ·cases h
def itoaX (args:List D):Option D:=match args with
 | [d]=>match unI d with
  | some n=>if -9223372036854775808≤n∧n≤9223372036854775807 then some (.val (.string ⟨(Lib.itoa n).toArray⟩)) else none
  | none=>none
 | _=>none
theorem itoaX_ok (hd:C.dr=false) {K g:FuncId} {name:String} {cs:Array Value} (hg:C.P.globalNamed name=some g) (ht:C.tab g=some cs)
  (hI:∀ (n:Int),-9223372036854775808≤n→n≤9223372036854775807→∀ w:World,w.var? C.P name=some cs→Calls C.P K #[.int .i64 n] w fun e w'=>e=.returned (.string ⟨(Lib.itoa n).toArray⟩)∧∃ k os,w'=grow (w.drewN k) os)
  {args:List D} {d:D} (h:itoaX args=some d):PureOK C K args d:=by
 unfold itoaX at h
 split at h
 ·split at h
  ·rename_i n e1
   split at h
   ·rename_i hc
    cases h
    rw [unI_eq e1]
    refine pure_string hd fun M w vs h1 h2 h3=>?_
    simp only [zU,Rep,I] at h3
    obtain ⟨v,r,e0,rfl,rfl⟩:=h3
    have hvs:vs=#[.int .i64 n]:=by
     cases vs
     simp only [] at e0
     subst e0
     simp
    rw [hvs]
    obtain ⟨t,fr,hh⟩:=h2 g cs ht
    refine (hI n hc.1 hc.2 w (by simp only [World.var?,hg,Option.bind_some,hh])).mono ?_
    rintro e w' ⟨rfl,k,os,rfl⟩
    refine ⟨rfl,⟨rfl,rfl,rfl,?_,fun b hb=>?_⟩⟩
    ·simp [grow,World.drewN]
    ·exact grow_heap (w.drewN k) os hb
   ·cases h
  ·cases h
 ·cases h
end
end Go.VS

namespace Go.VS.F1
open Go Go.Proofs Go.RowKit Go.Shelf Go.Sort
def powTab:Array Value:=#[.int .u64 1,.int .u64 10,.int .u64 100,.int .u64 1000,.int .u64 10000,.int .u64 100000,.int .u64 1000000,.int .u64 10000000,.int .u64 100000000,.int .u64 1000000000,.int .u64 10000000000,.int .u64 100000000000,.int .u64 1000000000000,.int .u64 10000000000000,.int .u64 100000000000000,.int .u64 1000000000000000,.int .u64 10000000000000000,.int .u64 100000000000000000,.int .u64 1000000000000000000,.int .u64 10000000000000000000]
theorem powTab_is:powTab=(Lib.pow10Tab.map fun z=>Value.int .u64 z).toArray:=by kernel_rfl
noncomputable def gPow : Nat := (Tryz.prog.globalNamed "internal/strconv.uint64pow10").getD 0
theorem gPow_is : Tryz.prog.globalNamed "internal/strconv.uint64pow10" = some gPow := by kernel_rfl
noncomputable def cfg:Cfg:={ P:=Tryz.prog,fn:=fnTab.find,ty:=tyTab.find,keep:=find2 keepTab,inl:=fun K=>memN K [36,38,43,44,60,61,62,63,64,69,70,72,82,87,96,103,108,110,111,112,117,121,122,132,133,134,135,136,137,138,139,144,145,146,147,158,160,161,162,172,190],ext:=fun K=>bif eqb K 98 then some itoaX else bif eqb K 99 then some joinX else none,xinl:=fun _=>none,glob:=fun _=>none,eqok:=fun t=>(eqTab.find t).isSome,dr:=false,tab:=fun g=>bif eqb g gPow then some powTab else none }
theorem cfg_ty:cfg.ty=tyTab.find:=rfl
theorem cfgOK:CfgOK cfg where
 ty:=fun _ _ h=>tyTab_ok.find h
 fn:=fun _ _ h=>fnTab_ok.find h
 enter:=fun _ _ h=>enTab_ok.find h
 mixed:=by kernel_rfl
 eqok:=fun t h=>by
  have h1:(eqTab.find t).isSome=true:=h
  cases hf:eqTab.find t with
  | none=>rw [hf] at h1; cases h1
  | some u =>
   have:=eqTab_ok.find hf
   unfold eqB at this
   simp only [Bool.and_eq_true,Bool.not_eq_true'] at this
   refine ⟨this.1.1,this.1.2,fun fs hfs f hm=>?_⟩
   have h2:=this.2
   have hfs':Tryz.prog.underlying t=some (.struct fs):=hfs
   rw [hfs'] at h2
   simp only [List.all_eq_true,bne_iff_ne] at h2
   exact h2 f hm
theorem globOK {M:Mem}:yx cfg M:=fun g d h=>by cases h
attribute [go_sem] zs_false
theorem cfg_tab:cfg.tab gPow=some powTab:=by
 show (bif eqb gPow gPow then some powTab else none)=_
 rw [yz.2 rfl]; rfl
theorem extOK:ExtOK cfg where
 pure:=fun K g args d h hg=>by
  have h':(bif eqb K 98 then some itoaX else bif eqb K 99 then some joinX else none:Option (List D→Option D))=some g:=h
  cases hk:eqb K 98 with
  | true =>
   rw [hk] at h'
   have:=yz.1 hk
   subst this
   cases h'
   exact itoaX_ok (C:=cfg) rfl gPow_is cfg_tab (fun n h0 h1 w hv=>Tryz.strconv_Itoa n h0 h1 w (by unfold Lib.TabIs; rw [← powTab_is]; exact hv)) hg
  | false =>
   rw [hk] at h'
   cases hj:eqb K 99 with
   | true =>
    rw [hj] at h'
    have:=yz.1 hj
    subst this
    cases h'
    exact joinX_ok (C:=cfg) rfl (fun bk o c xs sep w a1 a2 a3 a4 a5=>Tryz.strings_Join bk o c xs sep w a1 a2 a3 a4 a5) hg
   | false=>rw [hj] at h'; cases h'
 inl:=fun K g args objs nxt d objs' nxt' h=>by cases h
theorem sane_ok:(lim cfg).pure 16 []=some (B true):=lim_pure.2 ⟨60,by kernel_rfl⟩
theorem nil_ok:(lim cfg).pure 103 [.sl true [] 0 none,.fn (.func 104) [] []]=some (.tup []):=lim_pure.2 ⟨60,by kernel_rfl⟩
end Go.VS.F1

namespace Go.VS
open Go Go.Proofs Go.Sort Go.Shelf Go.RowKit
def zm (x y:Int × Int):Int:=F0.ranges_gathered_1 ⟨x.1,x.2⟩ ⟨y.1,y.2⟩
theorem cmp_val (a b:Int):F0.cmp_Compare a b=if a < b then -1 else if a > b then 1 else 0:=by
 unfold F0.cmp_Compare
 have e:∀ x:Int,F0.cmp_isNaN x=false:=fun x=>by simp [F0.cmp_isNaN]
 simp only [e,Bool.false_eq_true,if_false,Bool.cond_eq_ite,decide_eq_true_eq]
theorem gcmp_lo:loCmp zm:=fun x y=>by
 unfold zm F0.ranges_gathered_1
 rw [cmp_val]
 dsimp only
 repeat' split
 all_goals omega
noncomputable def cfg:Cfg:={ P:=Tryz.prog,fn:=fnTab.find,ty:=tyTab.find,keep:=find2 keepTab,inl:=fun K=>memN K [36,38,43,44,60,61,62,63,64,69,70,72,82,87,96,103,108,110,111,112,117,121,122,132,133,134,135,136,137,138,139,144,145,146,147,158,160,161,162,172,190],ext:=fun K=>bif eqb K 16 then some (fun args=>match args with | []=>some (B true) | _=>none) else none,xinl:=fun K=>bif eqb K 103 then some (sortN 104 zm) else none,glob:=fun _=>none,eqok:=fun t=>(eqTab.find t).isSome,dr:=false,tab:=F1.cfg.tab }
theorem cfg_ty:cfg.ty=tyTab.find:=rfl
theorem cfgOK:CfgOK cfg where
 ty:=fun _ _ h=>tyTab_ok.find h
 fn:=fun _ _ h=>fnTab_ok.find h
 enter:=fun _ _ h=>enTab_ok.find h
 mixed:=by kernel_rfl
 eqok:=fun t h=>by
  have h1:(eqTab.find t).isSome=true:=h
  cases hf:eqTab.find t with
  | none=>rw [hf] at h1; cases h1
  | some u =>
   have:=eqTab_ok.find hf
   unfold eqB at this
   simp only [Bool.and_eq_true,Bool.not_eq_true'] at this
   refine ⟨this.1.1,this.1.2,fun fs hfs f hm=>?_⟩
   have h2:=this.2
   have hfs':Tryz.prog.underlying t=some (.struct fs):=hfs
   rw [hfs'] at h2
   simp only [List.all_eq_true,bne_iff_ne] at h2
   exact h2 f hm
theorem globOK {M:Mem}:yx cfg M:=fun g d h=>by cases h
attribute [go_sem] zs_false
theorem pure_up {K:FuncId} {args:List D} {d:D} (h:PureOK F1.cfg K args d):PureOK cfg K args d:=fun M w vs h1 _ h3 h4=>h M w vs h1 F1.globOK h3 h4
theorem extOK:ExtOK cfg where
 pure:=fun K g args d h hg=>by
  have h':(bif eqb K 16 then some (fun args=>match args with | []=>some (B true) | _=>none) else none:Option (List D→Option D))=some g:=h
  cases hk:eqb K 16 with
  | false=>rw [hk] at h'; cases h'
  | true =>
   rw [hk] at h'
   have:=yz.1 hk
   subst this
   cases h'
   cases args with
   | nil=>cases hg; exact pure_up (lim_sound F1.cfgOK F1.extOK F1.sane_ok)
   | cons a r=>cases hg
 inl:=fun K g args objs nxt d objs' nxt' h hg=>by
  have h':(bif eqb K 103 then some (sortN 104 zm) else none:Option (List D→List (Nat × Ob)→Nat→Option (D × List (Nat × Ob) × Nat)))=some g:=h
  cases hk:eqb K 103 with
  | false=>rw [hk] at h'; cases h'
  | true =>
   rw [hk] at h'
   have:=yz.1 hk
   subst this
   cases h'
   exact sortN_ok (C:=cfg) Tryz.sortP cfgOK Tryz.isAgg25 Tryz.sizeOf25 gcmp_lo.swo (g:=104) (fg:=Tryz.f104) cfn104 (fun x y=>pureQ_of (C0:=F0.cfg) rfl (fun _=>F0.globOK) (fun _ _ _ q=>by cases q) (lim_sound F0.cfgOK F0.extOK (F0.T_ranges_gathered_1 ⟨x.1,x.2⟩ ⟨y.1,y.2⟩)))
    (fun nxt=>inl_of_pure (pure_up (lim_sound F1.cfgOK F1.extOK F1.nil_ok)) (fun M m vs h=>by simpa only [zU,Rep] using h) nxt) hg
theorem sane_ok:(lim cfg).pure 16 []=some (B true):=pure_of rfl
end Go.VS

namespace Go.VS
open Go Go.Proofs
set_option maxHeartbeats 0
set_option linter.unusedSimpArgs false
set_option linter.unusedVariables false
def yu (n:Int) (lo:Int) (hi:Int):Bool :=
 bif decide (n ≥ lo) then
  bif decide (n≤hi) then
   true
  else
   false
 else
  false

theorem zC (n:Int) (lo:Int) (hi:Int):(lim cfg).pure 80 [I n,I lo,I hi]=some (B (yu n lo hi)):=by
 unfold yu
 cases h1:decide (n ≥ lo) with
 | true =>
  have g1:=of_decide_eq_true h1
  cases h2:decide (n≤hi) with
  | true =>
   have g2:=of_decide_eq_true h2
   exact zu [.dec true,.dec true] (Ai h2 (Ai h1 trivial)) (by kernel_rfl)
  | false =>
   have g2:=of_decide_eq_false h2
   exact zu [.dec true,.dec false] (Ai h2 (Ai h1 trivial)) (by kernel_rfl)
 | false =>
  have g1:=of_decide_eq_false h1
  exact zu [.dec false] (Ai h1 trivial) (by kernel_rfl)

def zv (n:Int):Bool :=
 bif (yu n (-1099511627776) 1099511627776) then
  true
 else
  false

theorem zk (n:Int):(lim cfg).pure 81 [I n]=some (B (zv n)):=by
 unfold zv
 cases h1:(yu n (-1099511627776) 1099511627776) with
 | true =>
  exact zu [.pure (B (yu n (-1099511627776) 1099511627776)),.dec true] (Ai h1 (Ai (zC n (-1099511627776) 1099511627776) trivial)) (by kernel_rfl)
 | false =>
  exact zu [.pure (B (yu n (-1099511627776) 1099511627776)),.dec false] (Ai h1 (Ai (zC n (-1099511627776) 1099511627776) trivial)) (by kernel_rfl)

noncomputable def lp47_4:Code:=subC [1,1,0,1,0,0] (bodyC Tryz.f47)

inductive LR_ranges_Check_4 where
 | x0
 | x1 (i4:Nat) (x4:Sn)
 | x2 (i4:Nat) (x4:Sn)
 | x3 (i4:Nat) (x4:Sn)
 | x4 (i4:Nat) (x4:Sn)
instance:Inhabited LR_ranges_Check_4:=⟨.x0⟩
def ranges_Check_4 (r:GS Sn):List Sn→Nat→LR_ranges_Check_4
 | [],i4=>.x0
 | x4::xH,i4 =>
  bif decide (x4.lo > x4.hi) then
   .x1 i4 x4
  else
   bif (zv x4.lo) then
    bif (zv x4.hi) then
     bif decide (((i4:Nat):Int) > 0) then
      bif decide ((w64 (((GS.at r (w64 (((i4:Nat):Int) - 1))).hi)+1)) ≥ x4.lo) then
       .x2 i4 x4
      else
       ranges_Check_4 r xH (i4+1)
     else
      ranges_Check_4 r xH (i4+1)
    else
     .x3 i4 x4
   else
    .x4 i4 x4
def lr_ranges_Check_4 (r:GS Sn):LR_ranges_Check_4→Exit × St
 | .x0=>((.exit 0),⟨49,[(11,B false),(0,.sl r.nl (r.l.map Sn.D) (zsl r.nl 2) none),(8,.sl r.nl (r.l.map Sn.D) (zsl r.nl 2) none),(9,I ((r.l.length:Nat):Int)),(10,I ((r.l.length:Nat):Int))],[],0,0⟩)
 | .x1 i4 x4=>(.ret,⟨49,[(2,I 20),(47,B true),(46,.tup []),(45,.tup []),(44,.tup []),(43,.tup []),(42,.tup []),(41,.tup []),(40,.tup []),(39,.tup []),(38,.tup []),(37,.tup []),(36,.tup []),(35,.tup []),(34,.tup []),(33,.tup []),(32,B true),(31,B true),(30,.tup []),(29,.tup []),(28,.tup []),(27,.tup []),(26,B true),(25,B true),(24,.tup []),(23,.tup []),(22,.tup []),(21,.tup []),(20,B true),(19,B true),(18,I x4.hi),(17,.lref 0 0 2 1),(16,I x4.lo),(15,.lref 0 0 2 0),(3,I ((i4:Nat):Int)),(4,.lref 0 0 2 0),(14,.agg [I x4.lo,I x4.hi]),(13,.ptr (.agg [I x4.lo,I x4.hi])),(12,I ((i4:Nat):Int)),(11,B true),(0,.sl r.nl (r.l.map Sn.D) (zsl r.nl 2) none),(8,.sl r.nl (r.l.map Sn.D) (zsl r.nl 2) none),(9,I ((r.l.length:Nat):Int)),(10,I ((i4:Nat):Int))],[(0,⟨[.agg [I x4.lo,I x4.hi]],2,false⟩)],1,0⟩)
 | .x2 i4 x4=>(.ret,⟨49,[(2,I 20),(47,B true),(46,B true),(45,B true),(44,I x4.lo),(43,.lref 0 0 2 0),(42,I (w64 (((GS.at r (w64 (((i4:Nat):Int) - 1))).hi)+1))),(41,I ((GS.at r (w64 (((i4:Nat):Int) - 1))).hi)),(40,.ptr (I ((GS.at r (w64 (((i4:Nat):Int) - 1))).hi))),(39,.ptr (.agg [I ((GS.at r (w64 (((i4:Nat):Int) - 1))).lo),I ((GS.at r (w64 (((i4:Nat):Int) - 1))).hi)])),(38,I (w64 (((i4:Nat):Int) - 1))),(37,I ((i4:Nat):Int)),(36,.sl r.nl (r.l.map Sn.D) (zsl r.nl 2) none),(35,B true),(34,B true),(33,I ((i4:Nat):Int)),(32,B false),(31,B false),(30,B false),(29,B true),(28,I x4.hi),(27,.lref 0 0 2 1),(26,B false),(25,B false),(24,B false),(23,B true),(22,I x4.lo),(21,.lref 0 0 2 0),(20,B false),(19,B false),(18,I x4.hi),(17,.lref 0 0 2 1),(16,I x4.lo),(15,.lref 0 0 2 0),(3,I ((i4:Nat):Int)),(4,.lref 0 0 2 0),(14,.agg [I x4.lo,I x4.hi]),(13,.ptr (.agg [I x4.lo,I x4.hi])),(12,I ((i4:Nat):Int)),(11,B true),(0,.sl r.nl (r.l.map Sn.D) (zsl r.nl 2) none),(8,.sl r.nl (r.l.map Sn.D) (zsl r.nl 2) none),(9,I ((r.l.length:Nat):Int)),(10,I ((i4:Nat):Int))],[(0,⟨[.agg [I x4.lo,I x4.hi]],2,false⟩)],1,0⟩)
 | .x3 i4 x4=>(.ret,⟨49,[(2,I 20),(47,B true),(46,.tup []),(45,.tup []),(44,.tup []),(43,.tup []),(42,.tup []),(41,.tup []),(40,.tup []),(39,.tup []),(38,.tup []),(37,.tup []),(36,.tup []),(35,.tup []),(34,.tup []),(33,.tup []),(32,B true),(31,B true),(30,B true),(29,B false),(28,I x4.hi),(27,.lref 0 0 2 1),(26,B false),(25,B false),(24,B false),(23,B true),(22,I x4.lo),(21,.lref 0 0 2 0),(20,B false),(19,B false),(18,I x4.hi),(17,.lref 0 0 2 1),(16,I x4.lo),(15,.lref 0 0 2 0),(3,I ((i4:Nat):Int)),(4,.lref 0 0 2 0),(14,.agg [I x4.lo,I x4.hi]),(13,.ptr (.agg [I x4.lo,I x4.hi])),(12,I ((i4:Nat):Int)),(11,B true),(0,.sl r.nl (r.l.map Sn.D) (zsl r.nl 2) none),(8,.sl r.nl (r.l.map Sn.D) (zsl r.nl 2) none),(9,I ((r.l.length:Nat):Int)),(10,I ((i4:Nat):Int))],[(0,⟨[.agg [I x4.lo,I x4.hi]],2,false⟩)],1,0⟩)
 | .x4 i4 x4=>(.ret,⟨49,[(2,I 20),(47,B true),(46,.tup []),(45,.tup []),(44,.tup []),(43,.tup []),(42,.tup []),(41,.tup []),(40,.tup []),(39,.tup []),(38,.tup []),(37,.tup []),(36,.tup []),(35,.tup []),(34,.tup []),(33,.tup []),(32,B true),(31,B true),(30,.tup []),(29,.tup []),(28,.tup []),(27,.tup []),(26,B true),(25,B true),(24,B true),(23,B false),(22,I x4.lo),(21,.lref 0 0 2 0),(20,B false),(19,B false),(18,I x4.hi),(17,.lref 0 0 2 1),(16,I x4.lo),(15,.lref 0 0 2 0),(3,I ((i4:Nat):Int)),(4,.lref 0 0 2 0),(14,.agg [I x4.lo,I x4.hi]),(13,.ptr (.agg [I x4.lo,I x4.hi])),(12,I ((i4:Nat):Int)),(11,B true),(0,.sl r.nl (r.l.map Sn.D) (zsl r.nl 2) none),(8,.sl r.nl (r.l.map Sn.D) (zsl r.nl 2) none),(9,I ((r.l.length:Nat):Int)),(10,I ((i4:Nat):Int))],[(0,⟨[.agg [I x4.lo,I x4.hi]],2,false⟩)],1,0⟩)
def ranges_Check_4_l_o1 (x4:Sn):List Ora:=[.dec true,.el (.agg [I x4.lo,I x4.hi]),.dec false,.pure (B (zv x4.lo)),.dec true,.pure (B (zv x4.hi))]
def ranges_Check_4_l_o2 (r:GS Sn) (i4:Nat):List Ora:=[.dec true,.dec true,.el (.agg [I ((GS.at r (w64 (((i4:Nat):Int) - 1))).lo),I ((GS.at r (w64 (((i4:Nat):Int) - 1))).hi)])]
theorem lp_ranges_Check_4 (r:GS Sn):∀ (xH:List Sn) (i4:Nat) (hd4:r.l.drop i4=xH) (hi4:i4≤r.l.length) (hL4:r.l.length≤9223372036854775807),(lim cfg).loop 47 lp47_4 ⟨49,[(0,.sl r.nl (r.l.map Sn.D) (zsl r.nl 2) none),(8,.sl r.nl (r.l.map Sn.D) (zsl r.nl 2) none),(9,I ((r.l.length:Nat):Int)),(10,I ((i4:Nat):Int))],[],0,0⟩=some (lr_ranges_Check_4 r (ranges_Check_4 r xH i4)):=by
 intro xH
 induction xH with
 | nil =>
  intro i4 hd4 hi4 hL4
  unfold ranges_Check_4
  obtain rfl:i4=r.l.length:=nil_eq hd4 hi4
  exact yc [.dec false] (Ai (lt_no hd4) trivial) (by kernel_rfl)
 | cons x4 xH ih =>
  intro i4 hd4 hi4 hL4
  have hlt4:=zj hd4
  unfold ranges_Check_4
  have p1:=(el_at (s:=r) (f:=Sn.D) (k:=2) hd4)
  cases h7:decide (x4.lo > x4.hi) with
  | true =>
   have g7:=of_decide_eq_true h7
   exact yc [.dec true,.el (.agg [I x4.lo,I x4.hi]),.dec true] (Ai h7 (Ai p1 (Ai (yy hd4) trivial))) (by kernel_rfl)
  | false =>
   have g7:=of_decide_eq_false h7
   cases h8:(zv x4.lo) with
   | true =>
    cases h9:(zv x4.hi) with
    | true =>
     cases h10:decide (((i4:Nat):Int) > 0) with
     | true =>
      have g10:=of_decide_eq_true h10
      have p2:=(el_in (s:=r) (f:=Sn.D) (k:=2) (i:=w64 (((i4:Nat):Int) - 1)) (by simp only [List.length_append,List.length_cons,List.length_nil,zT] at * <;> omega) (by simp only [List.length_append,List.length_cons,List.length_nil,zT] at * <;> omega))
      cases h11:decide ((w64 (((GS.at r (w64 (((i4:Nat):Int) - 1))).hi)+1)) ≥ x4.lo) with
      | true =>
       have g11:=of_decide_eq_true h11
       exact yc ((ranges_Check_4_l_o1 x4)++((ranges_Check_4_l_o2 r i4)++[.dec true])) (Ai h11 (Ai p2 (Ai h10 (Ai h9 (Ai (zk x4.hi) (Ai h8 (Ai (zk x4.lo) (Ai h7 (Ai p1 (Ai (yy hd4) trivial)))))))))) (by kernel_rfl)
      | false =>
       have g11:=of_decide_eq_false h11
       exact po_turn ((ranges_Check_4_l_o1 x4)++((ranges_Check_4_l_o2 r i4)++[.dec false,.rw 48 (I ((i4+1:Nat):Int))])) (Ai (ya (i:=i4) (by have:=zj hd4; omega)) (Ai h11 (Ai p2 (Ai h10 (Ai h9 (Ai (zk x4.hi) (Ai h8 (Ai (zk x4.lo) (Ai h7 (Ai p1 (Ai (yy hd4) trivial))))))))))) (ih (i4+1) (zn hd4) (zj hd4) (by omega)) (by kernel_rfl)
     | false =>
      have g10:=of_decide_eq_false h10
      exact po_turn ((ranges_Check_4_l_o1 x4)++[.dec true,.dec false,.rw 48 (I ((i4+1:Nat):Int))]) (Ai (ya (i:=i4) (by have:=zj hd4; omega)) (Ai h10 (Ai h9 (Ai (zk x4.hi) (Ai h8 (Ai (zk x4.lo) (Ai h7 (Ai p1 (Ai (yy hd4) trivial))))))))) (ih (i4+1) (zn hd4) (zj hd4) (by omega)) (by kernel_rfl)
    | false =>
     exact yc ((ranges_Check_4_l_o1 x4)++[.dec false]) (Ai h9 (Ai (zk x4.hi) (Ai h8 (Ai (zk x4.lo) (Ai h7 (Ai p1 (Ai (yy hd4) trivial))))))) (by kernel_rfl)
   | false =>
    exact yc [.dec true,.el (.agg [I x4.lo,I x4.hi]),.dec false,.pure (B (zv x4.lo)),.dec false] (Ai h8 (Ai (zk x4.lo) (Ai h7 (Ai p1 (Ai (yy hd4) trivial))))) (by kernel_rfl)

def zz (r:GS Sn):Int :=
 bif decide (((r.l.length:Nat):Int) > 64) then
  20
 else
  match ranges_Check_4 r r.l 0 with
  | .x0 =>
   0
  | .x1 i4 x4 =>
   20
  | .x2 i4 x4 =>
   20
  | .x3 i4 x4 =>
   20
  | .x4 i4 x4 =>
   20

def sd0 (r:GS Sn):St:=⟨49,[(11,B false),(0,.sl r.nl (r.l.map Sn.D) (zsl r.nl 2) none),(8,.sl r.nl (r.l.map Sn.D) (zsl r.nl 2) none),(9,I ((r.l.length:Nat):Int)),(10,I ((r.l.length:Nat):Int))],[],0,0⟩

def sd1 (r:GS Sn) (i4:Nat) (x4:Sn):St:=⟨49,[(2,I 20),(47,B true),(46,.tup []),(45,.tup []),(44,.tup []),(43,.tup []),(42,.tup []),(41,.tup []),(40,.tup []),(39,.tup []),(38,.tup []),(37,.tup []),(36,.tup []),(35,.tup []),(34,.tup []),(33,.tup []),(32,B true),(31,B true),(30,.tup []),(29,.tup []),(28,.tup []),(27,.tup []),(26,B true),(25,B true),(24,.tup []),(23,.tup []),(22,.tup []),(21,.tup []),(20,B true),(19,B true),(18,I x4.hi),(17,.lref 0 0 2 1),(16,I x4.lo),(15,.lref 0 0 2 0),(3,I ((i4:Nat):Int)),(4,.lref 0 0 2 0),(14,.agg [I x4.lo,I x4.hi]),(13,.ptr (.agg [I x4.lo,I x4.hi])),(12,I ((i4:Nat):Int)),(11,B true),(0,.sl r.nl (r.l.map Sn.D) (zsl r.nl 2) none),(8,.sl r.nl (r.l.map Sn.D) (zsl r.nl 2) none),(9,I ((r.l.length:Nat):Int)),(10,I ((i4:Nat):Int))],[(0,⟨[.agg [I x4.lo,I x4.hi]],2,false⟩)],1,0⟩

def sd2 (r:GS Sn) (i4:Nat) (x4:Sn):St:=⟨49,[(2,I 20),(47,B true),(46,B true),(45,B true),(44,I x4.lo),(43,.lref 0 0 2 0),(42,I (w64 (((GS.at r (w64 (((i4:Nat):Int) - 1))).hi)+1))),(41,I ((GS.at r (w64 (((i4:Nat):Int) - 1))).hi)),(40,.ptr (I ((GS.at r (w64 (((i4:Nat):Int) - 1))).hi))),(39,.ptr (.agg [I ((GS.at r (w64 (((i4:Nat):Int) - 1))).lo),I ((GS.at r (w64 (((i4:Nat):Int) - 1))).hi)])),(38,I (w64 (((i4:Nat):Int) - 1))),(37,I ((i4:Nat):Int)),(36,.sl r.nl (r.l.map Sn.D) (zsl r.nl 2) none),(35,B true),(34,B true),(33,I ((i4:Nat):Int)),(32,B false),(31,B false),(30,B false),(29,B true),(28,I x4.hi),(27,.lref 0 0 2 1),(26,B false),(25,B false),(24,B false),(23,B true),(22,I x4.lo),(21,.lref 0 0 2 0),(20,B false),(19,B false),(18,I x4.hi),(17,.lref 0 0 2 1),(16,I x4.lo),(15,.lref 0 0 2 0),(3,I ((i4:Nat):Int)),(4,.lref 0 0 2 0),(14,.agg [I x4.lo,I x4.hi]),(13,.ptr (.agg [I x4.lo,I x4.hi])),(12,I ((i4:Nat):Int)),(11,B true),(0,.sl r.nl (r.l.map Sn.D) (zsl r.nl 2) none),(8,.sl r.nl (r.l.map Sn.D) (zsl r.nl 2) none),(9,I ((r.l.length:Nat):Int)),(10,I ((i4:Nat):Int))],[(0,⟨[.agg [I x4.lo,I x4.hi]],2,false⟩)],1,0⟩

def sd3 (r:GS Sn) (i4:Nat) (x4:Sn):St:=⟨49,[(2,I 20),(47,B true),(46,.tup []),(45,.tup []),(44,.tup []),(43,.tup []),(42,.tup []),(41,.tup []),(40,.tup []),(39,.tup []),(38,.tup []),(37,.tup []),(36,.tup []),(35,.tup []),(34,.tup []),(33,.tup []),(32,B true),(31,B true),(30,B true),(29,B false),(28,I x4.hi),(27,.lref 0 0 2 1),(26,B false),(25,B false),(24,B false),(23,B true),(22,I x4.lo),(21,.lref 0 0 2 0),(20,B false),(19,B false),(18,I x4.hi),(17,.lref 0 0 2 1),(16,I x4.lo),(15,.lref 0 0 2 0),(3,I ((i4:Nat):Int)),(4,.lref 0 0 2 0),(14,.agg [I x4.lo,I x4.hi]),(13,.ptr (.agg [I x4.lo,I x4.hi])),(12,I ((i4:Nat):Int)),(11,B true),(0,.sl r.nl (r.l.map Sn.D) (zsl r.nl 2) none),(8,.sl r.nl (r.l.map Sn.D) (zsl r.nl 2) none),(9,I ((r.l.length:Nat):Int)),(10,I ((i4:Nat):Int))],[(0,⟨[.agg [I x4.lo,I x4.hi]],2,false⟩)],1,0⟩

def sd4 (r:GS Sn) (i4:Nat) (x4:Sn):St:=⟨49,[(2,I 20),(47,B true),(46,.tup []),(45,.tup []),(44,.tup []),(43,.tup []),(42,.tup []),(41,.tup []),(40,.tup []),(39,.tup []),(38,.tup []),(37,.tup []),(36,.tup []),(35,.tup []),(34,.tup []),(33,.tup []),(32,B true),(31,B true),(30,.tup []),(29,.tup []),(28,.tup []),(27,.tup []),(26,B true),(25,B true),(24,B true),(23,B false),(22,I x4.lo),(21,.lref 0 0 2 0),(20,B false),(19,B false),(18,I x4.hi),(17,.lref 0 0 2 1),(16,I x4.lo),(15,.lref 0 0 2 0),(3,I ((i4:Nat):Int)),(4,.lref 0 0 2 0),(14,.agg [I x4.lo,I x4.hi]),(13,.ptr (.agg [I x4.lo,I x4.hi])),(12,I ((i4:Nat):Int)),(11,B true),(0,.sl r.nl (r.l.map Sn.D) (zsl r.nl 2) none),(8,.sl r.nl (r.l.map Sn.D) (zsl r.nl 2) none),(9,I ((r.l.length:Nat):Int)),(10,I ((i4:Nat):Int))],[(0,⟨[.agg [I x4.lo,I x4.hi]],2,false⟩)],1,0⟩

theorem zi (r:GS Sn) (hL_r:r.l.length≤9223372036854775807):(lim cfg).pure 47 [GS.D Sn.D 2 r]=some (I (zz r)):=by
 unfold zz
 cases h1:decide (((r.l.length:Nat):Int) > 64) with
 | true =>
  have g1:=of_decide_eq_true h1
  exact zu [.rw 6 (I ((r.l.length:Nat):Int)),.dec true] (Ai h1 (Ai (zO Sn.D r) trivial)) (by kernel_rfl)
 | false =>
  have g1:=of_decide_eq_false h1
  cases h12:ranges_Check_4 r r.l 0 with
  | x0 =>
   try dsimp only
   exact zu [.rw 6 (I ((r.l.length:Nat):Int)),.dec false,.rw 9 (I ((r.l.length:Nat):Int)),.loop (.exit 0) (sd0 r)] (Ai (zY (q:=lr_ranges_Check_4 r) (lp_ranges_Check_4 r r.l 0 (List.drop_zero) (Nat.zero_le _) (by omega)) h12) (Ai (zO Sn.D r) (Ai h1 (Ai (zO Sn.D r) trivial)))) (by kernel_rfl)
  | x1 i4 x4 =>
   try dsimp only
   exact zu [.rw 6 (I ((r.l.length:Nat):Int)),.dec false,.rw 9 (I ((r.l.length:Nat):Int)),.loop .ret (sd1 r i4 x4)] (Ai (zY (q:=lr_ranges_Check_4 r) (lp_ranges_Check_4 r r.l 0 (List.drop_zero) (Nat.zero_le _) (by omega)) h12) (Ai (zO Sn.D r) (Ai h1 (Ai (zO Sn.D r) trivial)))) (by kernel_rfl)
  | x2 i4 x4 =>
   try dsimp only
   exact zu [.rw 6 (I ((r.l.length:Nat):Int)),.dec false,.rw 9 (I ((r.l.length:Nat):Int)),.loop .ret (sd2 r i4 x4)] (Ai (zY (q:=lr_ranges_Check_4 r) (lp_ranges_Check_4 r r.l 0 (List.drop_zero) (Nat.zero_le _) (by omega)) h12) (Ai (zO Sn.D r) (Ai h1 (Ai (zO Sn.D r) trivial)))) (by kernel_rfl)
  | x3 i4 x4 =>
   try dsimp only
   exact zu [.rw 6 (I ((r.l.length:Nat):Int)),.dec false,.rw 9 (I ((r.l.length:Nat):Int)),.loop .ret (sd3 r i4 x4)] (Ai (zY (q:=lr_ranges_Check_4 r) (lp_ranges_Check_4 r r.l 0 (List.drop_zero) (Nat.zero_le _) (by omega)) h12) (Ai (zO Sn.D r) (Ai h1 (Ai (zO Sn.D r) trivial)))) (by kernel_rfl)
  | x4 i4 x4 =>
   try dsimp only
   exact zu [.rw 6 (I ((r.l.length:Nat):Int)),.dec false,.rw 9 (I ((r.l.length:Nat):Int)),.loop .ret (sd4 r i4 x4)] (Ai (zY (q:=lr_ranges_Check_4 r) (lp_ranges_Check_4 r r.l 0 (List.drop_zero) (Nat.zero_le _) (by omega)) h12) (Ai (zO Sn.D r) (Ai h1 (Ai (zO Sn.D r) trivial)))) (by kernel_rfl)

theorem two_bd {a b:GS Sn} {n:Nat} (ha:a.l.length≤n) (hb:b.l.length≤n):∀ r∈(GS.some [a,b]).l,r.l.length≤n:=by
 intro r hr
 simp only [GS.some_l,List.mem_cons,List.not_mem_nil,or_false] at hr
 rcases hr with rfl | rfl
 ·exact ha
 ·exact hb

inductive LR_ranges_check_2 where
 | x0
 | x1 (i2:Nat) (x2:GS Sn)
instance:Inhabited LR_ranges_check_2:=⟨.x0⟩
def ranges_check_2:List (GS Sn)→Nat→LR_ranges_check_2
 | [],i2=>.x0
 | x2::rest2,i2 =>
  bif ((zz x2) != 0) then
   .x1 i2 x2
  else
   ranges_check_2 rest2 (i2+1)
def ranges_check (l:GS (GS Sn)):Int :=
 match ranges_check_2 l.l 0 with
 | .x0 =>
  0
 | .x1 i2 x2 =>
  (zz x2)

noncomputable def lp32_4:Code:=subC [1,1,0,1,0,0] (bodyC Tryz.f32)

inductive LR_r_Valid_4 where
 | x0
 | x1 (i4:Nat) (x4:Sn)
 | x2 (i4:Nat) (x4:Sn)
 | x3 (i4:Nat) (x4:Sn)
 | x4 (i4:Nat) (x4:Sn)
instance:Inhabited LR_r_Valid_4:=⟨.x0⟩
def r_Valid_4 (r:GS Sn):List Sn→Nat→LR_r_Valid_4
 | [],i4=>.x0
 | x4::xH,i4 =>
  bif decide (x4.lo > x4.hi) then
   .x1 i4 x4
  else
   bif decide (x4.lo < (-1099511627776)) then
    .x2 i4 x4
   else
    bif decide (x4.hi > 1099511627776) then
     .x3 i4 x4
    else
     bif decide (((i4:Nat):Int) > 0) then
      bif decide ((w64 (((GS.at r (w64 (((i4:Nat):Int) - 1))).hi)+1)) ≥ x4.lo) then
       .x4 i4 x4
      else
       r_Valid_4 r xH (i4+1)
     else
      r_Valid_4 r xH (i4+1)
def lr_r_Valid_4 (r:GS Sn):LR_r_Valid_4→Exit × St
 | .x0=>((.exit 0),⟨57,[(10,B false),(9,I ((r.l.length:Nat):Int)),(8,.sl r.nl (r.l.map Sn.D) (zsl r.nl 2) none),(7,I ((r.l.length:Nat):Int)),(0,.sl r.nl (r.l.map Sn.D) (zsl r.nl 2) none),(3,I ((r.l.length:Nat):Int))],[],0,0⟩)
 | .x1 i4 x4=>(.ret,⟨57,[(2,B false),(39,B true),(38,.tup []),(37,.tup []),(36,.tup []),(35,.tup []),(34,.tup []),(33,.tup []),(32,B true),(31,B true),(30,.tup []),(29,.tup []),(28,.tup []),(27,.tup []),(26,.tup []),(25,.tup []),(24,B true),(23,B true),(22,I x4.hi),(21,.ptr (I x4.hi)),(20,.ptr (.agg [I x4.lo,I x4.hi])),(19,I ((i4:Nat):Int)),(18,.sl r.nl (r.l.map Sn.D) (zsl r.nl 2) none),(17,I x4.lo),(16,.ptr (I x4.lo)),(15,.ptr (.agg [I x4.lo,I x4.hi])),(14,I ((i4:Nat):Int)),(13,.sl r.nl (r.l.map Sn.D) (zsl r.nl 2) none),(10,B true),(9,I ((r.l.length:Nat):Int)),(8,.sl r.nl (r.l.map Sn.D) (zsl r.nl 2) none),(7,I ((i4:Nat):Int)),(0,.sl r.nl (r.l.map Sn.D) (zsl r.nl 2) none),(3,I ((i4:Nat):Int))],[],0,0⟩)
 | .x2 i4 x4=>(.ret,⟨57,[(2,B false),(39,B true),(38,.tup []),(37,.tup []),(36,.tup []),(35,.tup []),(34,.tup []),(33,.tup []),(32,B true),(31,B true),(30,B true),(29,I x4.lo),(28,.ptr (I x4.lo)),(27,.ptr (.agg [I x4.lo,I x4.hi])),(26,I ((i4:Nat):Int)),(25,.sl r.nl (r.l.map Sn.D) (zsl r.nl 2) none),(24,B false),(23,B false),(22,I x4.hi),(21,.ptr (I x4.hi)),(20,.ptr (.agg [I x4.lo,I x4.hi])),(19,I ((i4:Nat):Int)),(18,.sl r.nl (r.l.map Sn.D) (zsl r.nl 2) none),(17,I x4.lo),(16,.ptr (I x4.lo)),(15,.ptr (.agg [I x4.lo,I x4.hi])),(14,I ((i4:Nat):Int)),(13,.sl r.nl (r.l.map Sn.D) (zsl r.nl 2) none),(10,B true),(9,I ((r.l.length:Nat):Int)),(8,.sl r.nl (r.l.map Sn.D) (zsl r.nl 2) none),(7,I ((i4:Nat):Int)),(0,.sl r.nl (r.l.map Sn.D) (zsl r.nl 2) none),(3,I ((i4:Nat):Int))],[],0,0⟩)
 | .x3 i4 x4=>(.ret,⟨57,[(2,B false),(39,B true),(38,B true),(37,I x4.hi),(36,.ptr (I x4.hi)),(35,.ptr (.agg [I x4.lo,I x4.hi])),(34,I ((i4:Nat):Int)),(33,.sl r.nl (r.l.map Sn.D) (zsl r.nl 2) none),(32,B false),(31,B false),(30,B false),(29,I x4.lo),(28,.ptr (I x4.lo)),(27,.ptr (.agg [I x4.lo,I x4.hi])),(26,I ((i4:Nat):Int)),(25,.sl r.nl (r.l.map Sn.D) (zsl r.nl 2) none),(24,B false),(23,B false),(22,I x4.hi),(21,.ptr (I x4.hi)),(20,.ptr (.agg [I x4.lo,I x4.hi])),(19,I ((i4:Nat):Int)),(18,.sl r.nl (r.l.map Sn.D) (zsl r.nl 2) none),(17,I x4.lo),(16,.ptr (I x4.lo)),(15,.ptr (.agg [I x4.lo,I x4.hi])),(14,I ((i4:Nat):Int)),(13,.sl r.nl (r.l.map Sn.D) (zsl r.nl 2) none),(10,B true),(9,I ((r.l.length:Nat):Int)),(8,.sl r.nl (r.l.map Sn.D) (zsl r.nl 2) none),(7,I ((i4:Nat):Int)),(0,.sl r.nl (r.l.map Sn.D) (zsl r.nl 2) none),(3,I ((i4:Nat):Int))],[],0,0⟩)
 | .x4 i4 x4=>(.ret,⟨57,[(2,B false),(56,B true),(55,B true),(54,I x4.lo),(53,.ptr (I x4.lo)),(52,.ptr (.agg [I x4.lo,I x4.hi])),(51,I ((i4:Nat):Int)),(50,.sl r.nl (r.l.map Sn.D) (zsl r.nl 2) none),(49,I (w64 (((GS.at r (w64 (((i4:Nat):Int) - 1))).hi)+1))),(48,I ((GS.at r (w64 (((i4:Nat):Int) - 1))).hi)),(47,.ptr (I ((GS.at r (w64 (((i4:Nat):Int) - 1))).hi))),(46,.ptr (.agg [I ((GS.at r (w64 (((i4:Nat):Int) - 1))).lo),I ((GS.at r (w64 (((i4:Nat):Int) - 1))).hi)])),(45,I (w64 (((i4:Nat):Int) - 1))),(44,I ((i4:Nat):Int)),(43,.sl r.nl (r.l.map Sn.D) (zsl r.nl 2) none),(42,B true),(41,B true),(40,I ((i4:Nat):Int)),(39,B false),(38,B false),(37,I x4.hi),(36,.ptr (I x4.hi)),(35,.ptr (.agg [I x4.lo,I x4.hi])),(34,I ((i4:Nat):Int)),(33,.sl r.nl (r.l.map Sn.D) (zsl r.nl 2) none),(32,B false),(31,B false),(30,B false),(29,I x4.lo),(28,.ptr (I x4.lo)),(27,.ptr (.agg [I x4.lo,I x4.hi])),(26,I ((i4:Nat):Int)),(25,.sl r.nl (r.l.map Sn.D) (zsl r.nl 2) none),(24,B false),(23,B false),(22,I x4.hi),(21,.ptr (I x4.hi)),(20,.ptr (.agg [I x4.lo,I x4.hi])),(19,I ((i4:Nat):Int)),(18,.sl r.nl (r.l.map Sn.D) (zsl r.nl 2) none),(17,I x4.lo),(16,.ptr (I x4.lo)),(15,.ptr (.agg [I x4.lo,I x4.hi])),(14,I ((i4:Nat):Int)),(13,.sl r.nl (r.l.map Sn.D) (zsl r.nl 2) none),(10,B true),(9,I ((r.l.length:Nat):Int)),(8,.sl r.nl (r.l.map Sn.D) (zsl r.nl 2) none),(7,I ((i4:Nat):Int)),(0,.sl r.nl (r.l.map Sn.D) (zsl r.nl 2) none),(3,I ((i4:Nat):Int))],[],0,0⟩)
def r_Valid_4_l_o1 (r:GS Sn) (x4:Sn):List Ora:=[.rw 9 (I ((r.l.length:Nat):Int)),.dec true,.el (.agg [I x4.lo,I x4.hi]),.el (.agg [I x4.lo,I x4.hi]),.dec false,.el (.agg [I x4.lo,I x4.hi])]
def r_Valid_4_l_o2 (r:GS Sn) (i4:Nat) (x4:Sn):List Ora:=[.dec false,.el (.agg [I x4.lo,I x4.hi]),.dec false,.dec true,.el (.agg [I ((GS.at r (w64 (((i4:Nat):Int) - 1))).lo),I ((GS.at r (w64 (((i4:Nat):Int) - 1))).hi)]),.el (.agg [I x4.lo,I x4.hi])]
theorem lp_r_Valid_4 (r:GS Sn):∀ (xH:List Sn) (i4:Nat) (hd4:r.l.drop i4=xH) (hi4:i4≤r.l.length) (hL4:r.l.length≤9223372036854775807),(lim cfg).loop 32 lp32_4 ⟨57,[(0,.sl r.nl (r.l.map Sn.D) (zsl r.nl 2) none),(3,I ((i4:Nat):Int))],[],0,0⟩=some (lr_r_Valid_4 r (r_Valid_4 r xH i4)):=by
 intro xH
 induction xH with
 | nil =>
  intro i4 hd4 hi4 hL4
  unfold r_Valid_4
  obtain rfl:i4=r.l.length:=nil_eq hd4 hi4
  exact yc [.rw 9 (I ((r.l.length:Nat):Int)),.dec false] (Ai (lt_no hd4) (Ai (zO Sn.D r) trivial)) (by kernel_rfl)
 | cons x4 xH ih =>
  intro i4 hd4 hi4 hL4
  have hlt4:=zj hd4
  unfold r_Valid_4
  have p1:=(el_at (s:=r) (f:=Sn.D) (k:=2) hd4)
  have p2:=(el_at (s:=r) (f:=Sn.D) (k:=2) hd4)
  cases h7:decide (x4.lo > x4.hi) with
  | true =>
   have g7:=of_decide_eq_true h7
   exact yc [.rw 9 (I ((r.l.length:Nat):Int)),.dec true,.el (.agg [I x4.lo,I x4.hi]),.el (.agg [I x4.lo,I x4.hi]),.dec true] (Ai h7 (Ai p2 (Ai p1 (Ai (yy hd4) (Ai (zO Sn.D r) trivial))))) (by kernel_rfl)
  | false =>
   have g7:=of_decide_eq_false h7
   have p3:=(el_at (s:=r) (f:=Sn.D) (k:=2) hd4)
   cases h8:decide (x4.lo < (-1099511627776)) with
   | true =>
    have g8:=of_decide_eq_true h8
    exact yc ((r_Valid_4_l_o1 r x4)++[.dec true]) (Ai h8 (Ai p3 (Ai h7 (Ai p2 (Ai p1 (Ai (yy hd4) (Ai (zO Sn.D r) trivial))))))) (by kernel_rfl)
   | false =>
    have g8:=of_decide_eq_false h8
    have p4:=(el_at (s:=r) (f:=Sn.D) (k:=2) hd4)
    cases h9:decide (x4.hi > 1099511627776) with
    | true =>
     have g9:=of_decide_eq_true h9
     exact yc ((r_Valid_4_l_o1 r x4)++[.dec false,.el (.agg [I x4.lo,I x4.hi]),.dec true]) (Ai h9 (Ai p4 (Ai h8 (Ai p3 (Ai h7 (Ai p2 (Ai p1 (Ai (yy hd4) (Ai (zO Sn.D r) trivial))))))))) (by kernel_rfl)
    | false =>
     have g9:=of_decide_eq_false h9
     cases h10:decide (((i4:Nat):Int) > 0) with
     | true =>
      have g10:=of_decide_eq_true h10
      have p5:=(el_in (s:=r) (f:=Sn.D) (k:=2) (i:=w64 (((i4:Nat):Int) - 1)) (by simp only [List.length_append,List.length_cons,List.length_nil,zT] at * <;> omega) (by simp only [List.length_append,List.length_cons,List.length_nil,zT] at * <;> omega))
      have p6:=(el_at (s:=r) (f:=Sn.D) (k:=2) hd4)
      cases h11:decide ((w64 (((GS.at r (w64 (((i4:Nat):Int) - 1))).hi)+1)) ≥ x4.lo) with
      | true =>
       have g11:=of_decide_eq_true h11
       exact yc ((r_Valid_4_l_o1 r x4)++((r_Valid_4_l_o2 r i4 x4)++[.dec true])) (Ai h11 (Ai p6 (Ai p5 (Ai h10 (Ai h9 (Ai p4 (Ai h8 (Ai p3 (Ai h7 (Ai p2 (Ai p1 (Ai (yy hd4) (Ai (zO Sn.D r) trivial))))))))))))) (by kernel_rfl)
      | false =>
       have g11:=of_decide_eq_false h11
       exact po_turn ((r_Valid_4_l_o1 r x4)++((r_Valid_4_l_o2 r i4 x4)++[.dec false,.rw 12 (I ((i4+1:Nat):Int))])) (Ai (ya (i:=i4) (by have:=zj hd4; omega)) (Ai h11 (Ai p6 (Ai p5 (Ai h10 (Ai h9 (Ai p4 (Ai h8 (Ai p3 (Ai h7 (Ai p2 (Ai p1 (Ai (yy hd4) (Ai (zO Sn.D r) trivial)))))))))))))) (ih (i4+1) (zn hd4) (zj hd4) (by omega)) (by kernel_rfl)
     | false =>
      have g10:=of_decide_eq_false h10
      exact po_turn ((r_Valid_4_l_o1 r x4)++[.dec false,.el (.agg [I x4.lo,I x4.hi]),.dec false,.dec false,.rw 12 (I ((i4+1:Nat):Int))]) (Ai (ya (i:=i4) (by have:=zj hd4; omega)) (Ai h10 (Ai h9 (Ai p4 (Ai h8 (Ai p3 (Ai h7 (Ai p2 (Ai p1 (Ai (yy hd4) (Ai (zO Sn.D r) trivial))))))))))) (ih (i4+1) (zn hd4) (zj hd4) (by omega)) (by kernel_rfl)

def r_Valid (r:GS Sn):Bool :=
 bif decide (((r.l.length:Nat):Int) > 64) then
  false
 else
  match r_Valid_4 r r.l 0 with
  | .x0 =>
   true
  | .x1 i4 x4 =>
   false
  | .x2 i4 x4 =>
   false
  | .x3 i4 x4 =>
   false
  | .x4 i4 x4 =>
   false

def sd7 (r:GS Sn):St:=⟨57,[(10,B false),(9,I ((r.l.length:Nat):Int)),(8,.sl r.nl (r.l.map Sn.D) (zsl r.nl 2) none),(7,I ((r.l.length:Nat):Int)),(0,.sl r.nl (r.l.map Sn.D) (zsl r.nl 2) none),(3,I ((r.l.length:Nat):Int))],[],0,0⟩

def sd8 (r:GS Sn) (i4:Nat) (x4:Sn):St:=⟨57,[(2,B false),(39,B true),(38,.tup []),(37,.tup []),(36,.tup []),(35,.tup []),(34,.tup []),(33,.tup []),(32,B true),(31,B true),(30,.tup []),(29,.tup []),(28,.tup []),(27,.tup []),(26,.tup []),(25,.tup []),(24,B true),(23,B true),(22,I x4.hi),(21,.ptr (I x4.hi)),(20,.ptr (.agg [I x4.lo,I x4.hi])),(19,I ((i4:Nat):Int)),(18,.sl r.nl (r.l.map Sn.D) (zsl r.nl 2) none),(17,I x4.lo),(16,.ptr (I x4.lo)),(15,.ptr (.agg [I x4.lo,I x4.hi])),(14,I ((i4:Nat):Int)),(13,.sl r.nl (r.l.map Sn.D) (zsl r.nl 2) none),(10,B true),(9,I ((r.l.length:Nat):Int)),(8,.sl r.nl (r.l.map Sn.D) (zsl r.nl 2) none),(7,I ((i4:Nat):Int)),(0,.sl r.nl (r.l.map Sn.D) (zsl r.nl 2) none),(3,I ((i4:Nat):Int))],[],0,0⟩

def sd9 (r:GS Sn) (i4:Nat) (x4:Sn):St:=⟨57,[(2,B false),(39,B true),(38,.tup []),(37,.tup []),(36,.tup []),(35,.tup []),(34,.tup []),(33,.tup []),(32,B true),(31,B true),(30,B true),(29,I x4.lo),(28,.ptr (I x4.lo)),(27,.ptr (.agg [I x4.lo,I x4.hi])),(26,I ((i4:Nat):Int)),(25,.sl r.nl (r.l.map Sn.D) (zsl r.nl 2) none),(24,B false),(23,B false),(22,I x4.hi),(21,.ptr (I x4.hi)),(20,.ptr (.agg [I x4.lo,I x4.hi])),(19,I ((i4:Nat):Int)),(18,.sl r.nl (r.l.map Sn.D) (zsl r.nl 2) none),(17,I x4.lo),(16,.ptr (I x4.lo)),(15,.ptr (.agg [I x4.lo,I x4.hi])),(14,I ((i4:Nat):Int)),(13,.sl r.nl (r.l.map Sn.D) (zsl r.nl 2) none),(10,B true),(9,I ((r.l.length:Nat):Int)),(8,.sl r.nl (r.l.map Sn.D) (zsl r.nl 2) none),(7,I ((i4:Nat):Int)),(0,.sl r.nl (r.l.map Sn.D) (zsl r.nl 2) none),(3,I ((i4:Nat):Int))],[],0,0⟩

def sd10 (r:GS Sn) (i4:Nat) (x4:Sn):St:=⟨57,[(2,B false),(39,B true),(38,B true),(37,I x4.hi),(36,.ptr (I x4.hi)),(35,.ptr (.agg [I x4.lo,I x4.hi])),(34,I ((i4:Nat):Int)),(33,.sl r.nl (r.l.map Sn.D) (zsl r.nl 2) none),(32,B false),(31,B false),(30,B false),(29,I x4.lo),(28,.ptr (I x4.lo)),(27,.ptr (.agg [I x4.lo,I x4.hi])),(26,I ((i4:Nat):Int)),(25,.sl r.nl (r.l.map Sn.D) (zsl r.nl 2) none),(24,B false),(23,B false),(22,I x4.hi),(21,.ptr (I x4.hi)),(20,.ptr (.agg [I x4.lo,I x4.hi])),(19,I ((i4:Nat):Int)),(18,.sl r.nl (r.l.map Sn.D) (zsl r.nl 2) none),(17,I x4.lo),(16,.ptr (I x4.lo)),(15,.ptr (.agg [I x4.lo,I x4.hi])),(14,I ((i4:Nat):Int)),(13,.sl r.nl (r.l.map Sn.D) (zsl r.nl 2) none),(10,B true),(9,I ((r.l.length:Nat):Int)),(8,.sl r.nl (r.l.map Sn.D) (zsl r.nl 2) none),(7,I ((i4:Nat):Int)),(0,.sl r.nl (r.l.map Sn.D) (zsl r.nl 2) none),(3,I ((i4:Nat):Int))],[],0,0⟩

def sd11 (r:GS Sn) (i4:Nat) (x4:Sn):St:=⟨57,[(2,B false),(56,B true),(55,B true),(54,I x4.lo),(53,.ptr (I x4.lo)),(52,.ptr (.agg [I x4.lo,I x4.hi])),(51,I ((i4:Nat):Int)),(50,.sl r.nl (r.l.map Sn.D) (zsl r.nl 2) none),(49,I (w64 (((GS.at r (w64 (((i4:Nat):Int) - 1))).hi)+1))),(48,I ((GS.at r (w64 (((i4:Nat):Int) - 1))).hi)),(47,.ptr (I ((GS.at r (w64 (((i4:Nat):Int) - 1))).hi))),(46,.ptr (.agg [I ((GS.at r (w64 (((i4:Nat):Int) - 1))).lo),I ((GS.at r (w64 (((i4:Nat):Int) - 1))).hi)])),(45,I (w64 (((i4:Nat):Int) - 1))),(44,I ((i4:Nat):Int)),(43,.sl r.nl (r.l.map Sn.D) (zsl r.nl 2) none),(42,B true),(41,B true),(40,I ((i4:Nat):Int)),(39,B false),(38,B false),(37,I x4.hi),(36,.ptr (I x4.hi)),(35,.ptr (.agg [I x4.lo,I x4.hi])),(34,I ((i4:Nat):Int)),(33,.sl r.nl (r.l.map Sn.D) (zsl r.nl 2) none),(32,B false),(31,B false),(30,B false),(29,I x4.lo),(28,.ptr (I x4.lo)),(27,.ptr (.agg [I x4.lo,I x4.hi])),(26,I ((i4:Nat):Int)),(25,.sl r.nl (r.l.map Sn.D) (zsl r.nl 2) none),(24,B false),(23,B false),(22,I x4.hi),(21,.ptr (I x4.hi)),(20,.ptr (.agg [I x4.lo,I x4.hi])),(19,I ((i4:Nat):Int)),(18,.sl r.nl (r.l.map Sn.D) (zsl r.nl 2) none),(17,I x4.lo),(16,.ptr (I x4.lo)),(15,.ptr (.agg [I x4.lo,I x4.hi])),(14,I ((i4:Nat):Int)),(13,.sl r.nl (r.l.map Sn.D) (zsl r.nl 2) none),(10,B true),(9,I ((r.l.length:Nat):Int)),(8,.sl r.nl (r.l.map Sn.D) (zsl r.nl 2) none),(7,I ((i4:Nat):Int)),(0,.sl r.nl (r.l.map Sn.D) (zsl r.nl 2) none),(3,I ((i4:Nat):Int))],[],0,0⟩

theorem yp (r:GS Sn) (hL_r:r.l.length≤9223372036854775807):(lim cfg).pure 32 [GS.D Sn.D 2 r]=some (B (r_Valid r)):=by
 unfold r_Valid
 cases h1:decide (((r.l.length:Nat):Int) > 64) with
 | true =>
  have g1:=of_decide_eq_true h1
  exact zu [.rw 5 (I ((r.l.length:Nat):Int)),.dec true] (Ai h1 (Ai (zO Sn.D r) trivial)) (by kernel_rfl)
 | false =>
  have g1:=of_decide_eq_false h1
  cases h12:r_Valid_4 r r.l 0 with
  | x0 =>
   try dsimp only
   exact zu [.rw 5 (I ((r.l.length:Nat):Int)),.dec false,.loop (.exit 0) (sd7 r)] (Ai (zY (q:=lr_r_Valid_4 r) (lp_r_Valid_4 r r.l 0 (List.drop_zero) (Nat.zero_le _) (by omega)) h12) (Ai h1 (Ai (zO Sn.D r) trivial))) (by kernel_rfl)
  | x1 i4 x4 =>
   try dsimp only
   exact zu [.rw 5 (I ((r.l.length:Nat):Int)),.dec false,.loop .ret (sd8 r i4 x4)] (Ai (zY (q:=lr_r_Valid_4 r) (lp_r_Valid_4 r r.l 0 (List.drop_zero) (Nat.zero_le _) (by omega)) h12) (Ai h1 (Ai (zO Sn.D r) trivial))) (by kernel_rfl)
  | x2 i4 x4 =>
   try dsimp only
   exact zu [.rw 5 (I ((r.l.length:Nat):Int)),.dec false,.loop .ret (sd9 r i4 x4)] (Ai (zY (q:=lr_r_Valid_4 r) (lp_r_Valid_4 r r.l 0 (List.drop_zero) (Nat.zero_le _) (by omega)) h12) (Ai h1 (Ai (zO Sn.D r) trivial))) (by kernel_rfl)
  | x3 i4 x4 =>
   try dsimp only
   exact zu [.rw 5 (I ((r.l.length:Nat):Int)),.dec false,.loop .ret (sd10 r i4 x4)] (Ai (zY (q:=lr_r_Valid_4 r) (lp_r_Valid_4 r r.l 0 (List.drop_zero) (Nat.zero_le _) (by omega)) h12) (Ai h1 (Ai (zO Sn.D r) trivial))) (by kernel_rfl)
  | x4 i4 x4 =>
   try dsimp only
   exact zu [.rw 5 (I ((r.l.length:Nat):Int)),.dec false,.loop .ret (sd11 r i4 x4)] (Ai (zY (q:=lr_r_Valid_4 r) (lp_r_Valid_4 r r.l 0 (List.drop_zero) (Nat.zero_le _) (by omega)) h12) (Ai h1 (Ai (zO Sn.D r) trivial))) (by kernel_rfl)

def r_Check (r:GS Sn):Int :=
 bif (r_Valid r) then
  0
 else
  20

theorem T_r_Check (r:GS Sn) (hL_r:r.l.length≤9223372036854775807):(lim cfg).pure 48 [GS.D Sn.D 2 r]=some (I (r_Check r)):=by
 unfold r_Check
 cases h1:(r_Valid r) with
 | true =>
  exact zu [.pure (B (r_Valid r)),.dec true] (Ai h1 (Ai (yp r (by omega)) trivial)) (by kernel_rfl)
 | false =>
  exact zu [.pure (B (r_Valid r)),.dec false] (Ai h1 (Ai (yp r (by omega)) trivial)) (by kernel_rfl)

noncomputable def lp34_4:Code:=subC [1,1,0,1,0,0] (bodyC Tryz.f34)

inductive LR_r_Same_4 where
 | x0
 | x1 (i4:Nat) (x4:Sn)
instance:Inhabited LR_r_Same_4:=⟨.x0⟩
def r_Same_4 (b:GS Sn):List Sn→Nat→LR_r_Same_4
 | [],i4=>.x0
 | x4::xH,i4 =>
  bif (!((x4.lo == ((GS.at b ((i4:Nat):Int)).lo)) && ((x4.hi == ((GS.at b ((i4:Nat):Int)).hi)) && true))) then
   .x1 i4 x4
  else
   r_Same_4 b xH (i4+1)
def lr_r_Same_4 (a:GS Sn) (b:GS Sn):LR_r_Same_4→Exit × St
 | .x0=>((.exit 0),⟨26,[(14,B false),(13,I ((a.l.length:Nat):Int)),(12,.sl a.nl (a.l.map Sn.D) (zsl a.nl 2) none),(11,I ((a.l.length:Nat):Int)),(0,.sl a.nl (a.l.map Sn.D) (zsl a.nl 2) none),(1,.sl b.nl (b.l.map Sn.D) (zsl b.nl 2) none),(5,I ((a.l.length:Nat):Int))],[],0,0⟩)
 | .x1 i4 x4=>(.ret,⟨26,[(4,B false),(25,B true),(24,.agg [I ((GS.at b ((i4:Nat):Int)).lo),I ((GS.at b ((i4:Nat):Int)).hi)]),(23,.ptr (.agg [I ((GS.at b ((i4:Nat):Int)).lo),I ((GS.at b ((i4:Nat):Int)).hi)])),(22,I ((i4:Nat):Int)),(21,.sl b.nl (b.l.map Sn.D) (zsl b.nl 2) none),(20,.agg [I x4.lo,I x4.hi]),(19,.ptr (.agg [I x4.lo,I x4.hi])),(18,I ((i4:Nat):Int)),(17,.sl a.nl (a.l.map Sn.D) (zsl a.nl 2) none),(14,B true),(13,I ((a.l.length:Nat):Int)),(12,.sl a.nl (a.l.map Sn.D) (zsl a.nl 2) none),(11,I ((i4:Nat):Int)),(0,.sl a.nl (a.l.map Sn.D) (zsl a.nl 2) none),(1,.sl b.nl (b.l.map Sn.D) (zsl b.nl 2) none),(5,I ((i4:Nat):Int))],[],0,0⟩)
theorem lp_r_Same_4 (a:GS Sn) (b:GS Sn):∀ (xH:List Sn) (i4:Nat) (hd4:a.l.drop i4=xH) (hi4:i4≤a.l.length) (hq:a.l.length=b.l.length) (hL4:a.l.length≤9223372036854775807),(lim cfg).loop 34 lp34_4 ⟨26,[(0,.sl a.nl (a.l.map Sn.D) (zsl a.nl 2) none),(1,.sl b.nl (b.l.map Sn.D) (zsl b.nl 2) none),(5,I ((i4:Nat):Int))],[],0,0⟩=some (lr_r_Same_4 a b (r_Same_4 b xH i4)):=by
 intro xH
 induction xH with
 | nil =>
  intro i4 hd4 hi4 hq hL4
  unfold r_Same_4
  obtain rfl:i4=a.l.length:=nil_eq hd4 hi4
  exact yc [.rw 13 (I ((a.l.length:Nat):Int)),.dec false] (Ai (lt_no hd4) (Ai (zO Sn.D a) trivial)) (by kernel_rfl)
 | cons x4 xH ih =>
  intro i4 hd4 hi4 hq hL4
  have hlt4:=zj hd4
  unfold r_Same_4
  cases h3:(!((x4.lo == ((GS.at b ((i4:Nat):Int)).lo)) && ((x4.hi == ((GS.at b ((i4:Nat):Int)).hi)) && true))) with
  | true =>
   exact yc [.rw 13 (I ((a.l.length:Nat):Int)),.dec true,.el (.agg [I x4.lo,I x4.hi]),.el (.agg [I ((GS.at b ((i4:Nat):Int)).lo),I ((GS.at b ((i4:Nat):Int)).hi)]),.dec true] (Ai h3 (Ai (el_in (s:=b) (f:=Sn.D) (k:=2) (i:=((i4:Nat):Int)) (by omega) (by omega)) (Ai (el_at (s:=a) (f:=Sn.D) (k:=2) hd4) (Ai (yy hd4) (Ai (zO Sn.D a) trivial))))) (by kernel_rfl)
  | false =>
   exact po_turn [.rw 13 (I ((a.l.length:Nat):Int)),.dec true,.el (.agg [I x4.lo,I x4.hi]),.el (.agg [I ((GS.at b ((i4:Nat):Int)).lo),I ((GS.at b ((i4:Nat):Int)).hi)]),.dec false,.rw 16 (I ((i4+1:Nat):Int))] (Ai (ya (i:=i4) (by have:=zj hd4; omega)) (Ai h3 (Ai (el_in (s:=b) (f:=Sn.D) (k:=2) (i:=((i4:Nat):Int)) (by omega) (by omega)) (Ai (el_at (s:=a) (f:=Sn.D) (k:=2) hd4) (Ai (yy hd4) (Ai (zO Sn.D a) trivial)))))) (ih (i4+1) (zn hd4) (zj hd4) (by omega) (by omega)) (by kernel_rfl)

def zh (a:GS Sn) (b:GS Sn):Bool :=
 bif (((a.l.length:Nat):Int) != ((b.l.length:Nat):Int)) then
  false
 else
  match r_Same_4 b a.l 0 with
  | .x0 =>
   true
  | .x1 i4 x4 =>
   false

def sd12 (a:GS Sn) (b:GS Sn):St:=⟨26,[(14,B false),(13,I ((a.l.length:Nat):Int)),(12,.sl a.nl (a.l.map Sn.D) (zsl a.nl 2) none),(11,I ((a.l.length:Nat):Int)),(0,.sl a.nl (a.l.map Sn.D) (zsl a.nl 2) none),(1,.sl b.nl (b.l.map Sn.D) (zsl b.nl 2) none),(5,I ((a.l.length:Nat):Int))],[],0,0⟩

def sd13 (a:GS Sn) (b:GS Sn) (i4:Nat) (x4:Sn):St:=⟨26,[(4,B false),(25,B true),(24,.agg [I ((GS.at b ((i4:Nat):Int)).lo),I ((GS.at b ((i4:Nat):Int)).hi)]),(23,.ptr (.agg [I ((GS.at b ((i4:Nat):Int)).lo),I ((GS.at b ((i4:Nat):Int)).hi)])),(22,I ((i4:Nat):Int)),(21,.sl b.nl (b.l.map Sn.D) (zsl b.nl 2) none),(20,.agg [I x4.lo,I x4.hi]),(19,.ptr (.agg [I x4.lo,I x4.hi])),(18,I ((i4:Nat):Int)),(17,.sl a.nl (a.l.map Sn.D) (zsl a.nl 2) none),(14,B true),(13,I ((a.l.length:Nat):Int)),(12,.sl a.nl (a.l.map Sn.D) (zsl a.nl 2) none),(11,I ((i4:Nat):Int)),(0,.sl a.nl (a.l.map Sn.D) (zsl a.nl 2) none),(1,.sl b.nl (b.l.map Sn.D) (zsl b.nl 2) none),(5,I ((i4:Nat):Int))],[],0,0⟩

theorem yi (a:GS Sn) (b:GS Sn) (hL_a:a.l.length≤9223372036854775807):(lim cfg).pure 34 [GS.D Sn.D 2 a,GS.D Sn.D 2 b]=some (B (zh a b)):=by
 unfold zh
 cases h1:(((a.l.length:Nat):Int) != ((b.l.length:Nat):Int)) with
 | true =>
  have g1:=bne_true h1
  exact zu [.rw 7 (I ((a.l.length:Nat):Int)),.rw 9 (I ((b.l.length:Nat):Int)),.dec true] (Ai h1 (Ai (zO Sn.D b) (Ai (zO Sn.D a) trivial))) (by kernel_rfl)
 | false =>
  have g1:=bne_false h1
  cases h4:r_Same_4 b a.l 0 with
  | x0 =>
   try dsimp only
   exact zu [.rw 7 (I ((a.l.length:Nat):Int)),.rw 9 (I ((b.l.length:Nat):Int)),.dec false,.loop (.exit 0) (sd12 a b)] (Ai (zY (q:=lr_r_Same_4 a b) (lp_r_Same_4 a b a.l 0 (List.drop_zero) (Nat.zero_le _) (by omega) (by omega)) h4) (Ai h1 (Ai (zO Sn.D b) (Ai (zO Sn.D a) trivial)))) (by kernel_rfl)
  | x1 i4 x4 =>
   try dsimp only
   exact zu [.rw 7 (I ((a.l.length:Nat):Int)),.rw 9 (I ((b.l.length:Nat):Int)),.dec false,.loop .ret (sd13 a b i4 x4)] (Ai (zY (q:=lr_r_Same_4 a b) (lp_r_Same_4 a b a.l 0 (List.drop_zero) (Nat.zero_le _) (by omega) (by omega)) h4) (Ai h1 (Ai (zO Sn.D b) (Ai (zO Sn.D a) trivial)))) (by kernel_rfl)

def ranges_Has_1 (x:Sn) (n:Int):Bool :=
 bif (yu n x.lo x.hi) then
  true
 else
  false

theorem T_ranges_Has_1 (x:Sn) (n:Int):(lim cfg).pure 95 [Sn.D x,.ptr (I n)]=some (B (ranges_Has_1 x n)):=by
 unfold ranges_Has_1
 cases h1:(yu n x.lo x.hi) with
 | true =>
  exact zu [.pure (B (yu n x.lo x.hi)),.dec true] (Ai h1 (Ai (zC n x.lo x.hi) trivial)) (by kernel_rfl)
 | false =>
  exact zu [.pure (B (yu n x.lo x.hi)),.dec false] (Ai h1 (Ai (zC n x.lo x.hi) trivial)) (by kernel_rfl)

noncomputable def lp107_2:Code:=subC [1,0,1,0,0] (bodyC Tryz.f107)

inductive LR_idxHas_2 where
 | x0
 | x1 (i2:Nat) (x2:Sn)
instance:Inhabited LR_idxHas_2:=⟨.x0⟩
def idxHas_2 (n:Int):List Sn→Nat→LR_idxHas_2
 | [],i2=>.x0
 | x2::rest2,i2 =>
  bif (ranges_Has_1 x2 n) then
   .x1 i2 x2
  else
   idxHas_2 n rest2 (i2+1)
def lr_idxHas_2 (s:GS Sn) (n:Int):LR_idxHas_2→Exit × St
 | .x0=>((.exit 0),⟨19,[(9,B false),(0,.sl s.nl (s.l.map Sn.D) (zsl s.nl 2) none),(1,.fn (.func 95) [] [.ptr (I n)]),(7,I ((s.l.length:Nat):Int)),(8,I ((s.l.length:Nat):Int))],[],0,0⟩)
 | .x1 i2 x2=>(.ret,⟨19,[(4,I ((i2:Nat):Int)),(17,I ((i2:Nat):Int)),(16,B true),(15,.agg [I x2.lo,I x2.hi]),(14,.ptr (.agg [I x2.lo,I x2.hi])),(13,I ((i2:Nat):Int)),(12,.sl s.nl (s.l.map Sn.D) (zsl s.nl 2) none),(11,.fn (.func 95) [] [.ptr (I n)]),(5,I ((i2:Nat):Int)),(10,I ((i2:Nat):Int)),(9,B true),(0,.sl s.nl (s.l.map Sn.D) (zsl s.nl 2) none),(1,.fn (.func 95) [] [.ptr (I n)]),(7,I ((s.l.length:Nat):Int)),(8,I ((i2:Nat):Int))],[],0,0⟩)
theorem lp_idxHas_2 (s:GS Sn) (n:Int):∀ (rest2:List Sn) (i2:Nat) (hd2:s.l.drop i2=rest2) (hi2:i2≤s.l.length) (hL2:s.l.length≤9223372036854775807),(lim cfg).loop 107 lp107_2 ⟨19,[(0,.sl s.nl (s.l.map Sn.D) (zsl s.nl 2) none),(1,.fn (.func 95) [] [.ptr (I n)]),(7,I ((s.l.length:Nat):Int)),(8,I ((i2:Nat):Int))],[],0,0⟩=some (lr_idxHas_2 s n (idxHas_2 n rest2 i2)):=by
 intro rest2
 induction rest2 with
 | nil =>
  intro i2 hd2 hi2 hL2
  unfold idxHas_2
  obtain rfl:i2=s.l.length:=nil_eq hd2 hi2
  exact yc [.dec false] (Ai (lt_no hd2) trivial) (by kernel_rfl)
 | cons x2 rest2 ih =>
  intro i2 hd2 hi2 hL2
  have hlt2:=zj hd2
  unfold idxHas_2
  cases h2:(ranges_Has_1 x2 n) with
  | true =>
   exact yc [.dec true,.el (.agg [I x2.lo,I x2.hi]),.pure (B (ranges_Has_1 x2 n)),.dec true] (Ai h2 (Ai (T_ranges_Has_1 x2 n) (Ai (el_at (s:=s) (f:=Sn.D) (k:=2) hd2) (Ai (yy hd2) trivial)))) (by kernel_rfl)
  | false =>
   exact po_turn [.dec true,.el (.agg [I x2.lo,I x2.hi]),.pure (B (ranges_Has_1 x2 n)),.dec false,.rw 18 (I ((i2+1:Nat):Int))] (Ai (ya (i:=i2) (by have:=zj hd2; omega)) (Ai h2 (Ai (T_ranges_Has_1 x2 n) (Ai (el_at (s:=s) (f:=Sn.D) (k:=2) hd2) (Ai (yy hd2) trivial))))) (ih (i2+1) (zn hd2) (zj hd2) (by omega)) (by kernel_rfl)

def idxHas (s:GS Sn) (n:Int):Int :=
 match idxHas_2 n s.l 0 with
 | .x0 =>
  (-1)
 | .x1 i2 x2 =>
  ((i2:Nat):Int)

def sd19 (s:GS Sn) (n:Int):St:=⟨19,[(9,B false),(0,.sl s.nl (s.l.map Sn.D) (zsl s.nl 2) none),(1,.fn (.func 95) [] [.ptr (I n)]),(7,I ((s.l.length:Nat):Int)),(8,I ((s.l.length:Nat):Int))],[],0,0⟩

def sd20 (s:GS Sn) (n:Int) (i2:Nat) (x2:Sn):St:=⟨19,[(4,I ((i2:Nat):Int)),(17,I ((i2:Nat):Int)),(16,B true),(15,.agg [I x2.lo,I x2.hi]),(14,.ptr (.agg [I x2.lo,I x2.hi])),(13,I ((i2:Nat):Int)),(12,.sl s.nl (s.l.map Sn.D) (zsl s.nl 2) none),(11,.fn (.func 95) [] [.ptr (I n)]),(5,I ((i2:Nat):Int)),(10,I ((i2:Nat):Int)),(9,B true),(0,.sl s.nl (s.l.map Sn.D) (zsl s.nl 2) none),(1,.fn (.func 95) [] [.ptr (I n)]),(7,I ((s.l.length:Nat):Int)),(8,I ((i2:Nat):Int))],[],0,0⟩

theorem T_idxHas (s:GS Sn) (n:Int) (hL_s:s.l.length≤9223372036854775807):(lim cfg).pure 107 [GS.D Sn.D 2 s,.fn (.func 95) [] [.ptr (I n)]]=some (I (idxHas s n)):=by
 unfold idxHas
 cases h3:idxHas_2 n s.l 0 with
 | x0 =>
  try dsimp only
  exact zu [.rw 7 (I ((s.l.length:Nat):Int)),.loop (.exit 0) (sd19 s n)] (Ai (zY (q:=lr_idxHas_2 s n) (lp_idxHas_2 s n s.l 0 (List.drop_zero) (Nat.zero_le _) (by omega)) h3) (Ai (zO Sn.D s) trivial)) (by kernel_rfl)
 | x1 i2 x2 =>
  try dsimp only
  exact zu [.rw 7 (I ((s.l.length:Nat):Int)),.loop .ret (sd20 s n i2 x2)] (Ai (zY (q:=lr_idxHas_2 s n) (lp_idxHas_2 s n s.l 0 (List.drop_zero) (Nat.zero_le _) (by omega)) h3) (Ai (zO Sn.D s) trivial)) (by kernel_rfl)

def conHas (s:GS Sn) (n:Int):Bool :=
 bif decide ((idxHas s n) ≥ 0) then
  true
 else
  false

theorem T_conHas (s:GS Sn) (n:Int) (hL_s:s.l.length≤9223372036854775807):(lim cfg).pure 94 [GS.D Sn.D 2 s,.fn (.func 95) [] [.ptr (I n)]]=some (B (conHas s n)):=by
 unfold conHas
 cases h1:decide ((idxHas s n) ≥ 0) with
 | true =>
  have g1:=of_decide_eq_true h1
  exact zu [.pure (I (idxHas s n)),.dec true] (Ai h1 (Ai (T_idxHas s n (by omega)) trivial)) (by kernel_rfl)
 | false =>
  have g1:=of_decide_eq_false h1
  exact zu [.pure (I (idxHas s n)),.dec false] (Ai h1 (Ai (T_idxHas s n (by omega)) trivial)) (by kernel_rfl)

def zJ (r:GS Sn) (n:Int):Bool × Int :=
 bif ((zz r) != 0) then
  (false,(zz r))
 else
  bif (conHas r n) then
   (true,0)
  else
   (false,0)

theorem T_ranges_Has (r:GS Sn) (n:Int) (hL_r:r.l.length≤9223372036854775807):(lim cfg).pure 39 [GS.D Sn.D 2 r,I n]=some (.tup [B ((zJ r n).1),I ((zJ r n).2)]):=by
 unfold zJ
 cases h1:((zz r) != 0) with
 | true =>
  have g1:=bne_true h1
  exact zu [.pure (I (zz r)),.dec true] (Ai h1 (Ai (zi r (by omega)) trivial)) (by kernel_rfl)
 | false =>
  have g1:=bne_false h1
  cases h2:(conHas r n) with
  | true =>
   exact zu [.pure (I (zz r)),.dec false,.pure (B (conHas r n)),.dec true] (Ai h2 (Ai (T_conHas r n (by omega)) (Ai h1 (Ai (zi r (by omega)) trivial)))) (by kernel_rfl)
  | false =>
   exact zu [.pure (I (zz r)),.dec false,.pure (B (conHas r n)),.dec false] (Ai h2 (Ai (T_conHas r n (by omega)) (Ai h1 (Ai (zi r (by omega)) trivial)))) (by kernel_rfl)
end Go.VS

namespace Go.VS
open Go
set_option maxHeartbeats 0
theorem in_iff {n lo hi:Int}:yu n lo hi=true↔lo≤n∧n≤hi:=by
 unfold yu
 simp only [Bool.cond_eq_ite,decide_eq_true_eq]
 constructor
 ·intro h
  split at h
  ·split at h
   ·omega
   ·cases h
  ·cases h
 ·intro h
  rw [if_pos (by omega),if_pos (by omega)]
def Ar (n:Int):Prop:=-1099511627776≤n∧n≤1099511627776
theorem area_iff {n:Int}:zv n=true↔Ar n:=by
 unfold zv Ar
 rw [← in_iff]
 cases yu n (-1099511627776) 1099511627776 <;> simp
theorem area_no {n:Int}:zv n=false↔¬ Ar n:=by rw [← area_iff]; simp
theorem at_of' {r:GS Sn} {x:Sn} {rest:List Sn} {i:Nat} (h:r.l.drop i=x::rest):r.at (i:Int)=x:=by
 have hx:r.l[i]?=Option.some x:=by rw [← List.head?_drop,h]; rfl
 show r.l.getD ((i:Int)).toNat default=x
 rw [Int.toNat_natCast,List.getD_eq_getElem?_getD,hx]; rfl
def chn:Option Int→List Sn→Prop
 | _,[]=>True
 | p,s::l=>s.lo≤s.hi∧Ar s.lo∧Ar s.hi∧(∀ h,p=some h→h+1 < s.lo)∧chn (some s.hi) l
theorem chn_iff:∀ {l:List Sn} {p:Option Int},chn p l↔cn l∧bd l∧∀ h,p=some h→∀ t∈l,h+1 < t.lo
 | [],p=>⟨fun _=>⟨trivial,(fun s hs=>by cases hs),(fun h _ t ht=>by cases ht)⟩,fun _=>trivial⟩
 | s::l,p=>by
  simp only [chn]
  rw [chn_iff (l:=l) (p:=some s.hi)]
  constructor
  ·rintro ⟨h1,h2,h3,h4,h5,h6,h7⟩
   refine ⟨⟨h1,h7 s.hi rfl,h5⟩,fun t ht=>?_,fun h hp t ht=>?_⟩
   ·rcases List.mem_cons.1 ht with rfl | ht
    ·exact ⟨h2.1,h2.2,h3.1,h3.2⟩
    ·exact h6 t ht
   ·rcases List.mem_cons.1 ht with rfl | ht
    ·exact h4 h hp
    ·have:=h4 h hp; have:=h7 s.hi rfl t ht; omega
  ·rintro ⟨⟨h1,h2,h3⟩,h4,h5⟩
   have hs:=h4 s List.mem_cons_self
   exact ⟨h1,⟨hs.1,hs.2.1⟩,⟨hs.2.2.1,hs.2.2.2⟩,fun h hp=>h5 h hp s List.mem_cons_self,h3,fun t ht=>h4 t (List.mem_cons_of_mem _ ht),(fun h hp t ht=>by cases hp; exact h2 t ht)⟩
theorem ok_chn {l:List Sn}:Ok l↔chn none l∧l.length≤64:=by
 rw [chn_iff]
 exact ⟨fun h=>⟨⟨h.1,h.2.1,(fun h hp=>by cases hp)⟩,h.2.2⟩,fun h=>⟨h.1.1,h.1.2.1,h.2⟩⟩
def prv (r:GS Sn) (i:Nat):Option Int:=if i=0 then none else some (r.at ((i:Int) - 1)).hi
theorem check4 (r:GS Sn):∀ (l:List Sn) (i:Nat),r.l.drop i=l→i+l.length≤64→(∀ h,prv r i=some h→Ar h)→(ranges_Check_4 r l i=.x0↔chn (prv r i) l)
 | [],i,_,_,_=>by simp [ranges_Check_4,chn]
 | x::l,i,hd,hi,hp=>by
  have hx:=at_of' hd
  unfold ranges_Check_4
  simp only [chn]
  have hn:prv r (i+1)=some x.hi:=by
   unfold prv
   rw [if_neg (by omega),show ((i+1:Nat):Int) - 1=(i:Int) from by omega,hx]
  cases h1:decide (x.lo > x.hi) with
  | true=>have:=of_decide_eq_true h1; simp; intro; omega
  | false =>
   have h1:=of_decide_eq_false h1
   cases h2:zv x.lo with
   | false=>have:=area_no.1 h2; simp [this]
   | true =>
    have h2:=area_iff.1 h2
    cases h3:zv x.hi with
    | false=>have:=area_no.1 h3; simp [this]
    | true =>
     have h3:=area_iff.1 h3
     have hil:i < 64:=by simp only [List.length_cons] at hi; omega
     have ih:=check4 r l (i+1) (zn hd) (by simp only [List.length_cons] at hi; omega) (fun h hh=>by rw [hn] at hh; cases hh; exact h3)
     rw [hn] at ih
     simp only [cond_false,cond_true]
     by_cases h0:i=0
     ·subst h0
      rw [decide_eq_false (by omega),cond_false,ih]
      simp only [prv,if_true]
      exact ⟨fun h=>⟨by omega,h2,h3,fun _ hh=>(by cases hh),h⟩,fun h=>h.2.2.2.2⟩
     ·have e:prv r i=some (r.at ((i:Int) - 1)).hi:=by unfold prv; rw [if_neg h0]
      have ha:=hp _ e
      rw [decide_eq_true (by omega:((i:Nat):Int) > 0),cond_true,w64_eq (n:=((i:Nat):Int) - 1) (by omega) (by omega),e]
      unfold Ar at ha
      rw [w64_eq (by omega) (by omega)]
      cases h4:decide ((r.at ((i:Int) - 1)).hi+1 ≥ x.lo) with
      | true =>
       have:=of_decide_eq_true h4
       simp only [cond_true]
       exact ⟨fun h=>(by cases h),fun h=>by have:=h.2.2.2.1 _ rfl; omega⟩
      | false =>
       have:=of_decide_eq_false h4
       simp only [cond_false]
       rw [ih]
       exact ⟨fun h=>⟨by omega,h2,h3,fun _ hh=>(by cases hh; omega),h⟩,fun h=>h.2.2.2.2⟩
theorem check_iff {r:GS Sn}:zz r=0↔Ok r.l:=by
 rw [ok_chn]
 unfold zz
 cases h:decide (((r.l.length:Nat):Int) > 64) with
 | true=>have:=of_decide_eq_true h; simp only [cond_true]; exact ⟨fun h=>(by cases h),fun h=>by have:=h.2; omega⟩
 | false =>
  have h:=of_decide_eq_false h
  have k:=check4 r r.l 0 (List.drop_zero) (by omega) (fun h hh=>by cases hh)
  have e:prv r 0=none:=rfl
  rw [e] at k
  simp only [cond_false]
  rw [← k]
  cases ranges_Check_4 r r.l 0 <;> simp <;> omega
theorem check_20 {r:GS Sn} (h:¬ Ok r.l):zz r=20:=by
 rw [← check_iff] at h
 unfold zz at h ⊢
 cases hd:decide (((r.l.length:Nat):Int) > 64) with
 | true=>rfl
 | false =>
  rw [hd] at h
  simp only [cond_false] at h ⊢
  cases hh:ranges_Check_4 r r.l 0 <;> rw [hh] at h <;> simp at h ⊢
theorem valid4 (r:GS Sn):∀ (l:List Sn) (i:Nat),r.l.drop i=l→i+l.length≤64→(∀ h,prv r i=some h→Ar h)→(r_Valid_4 r l i=.x0↔chn (prv r i) l)
 | [],i,_,_,_=>by simp [r_Valid_4,chn]
 | x::l,i,hd,hi,hp=>by
  have hx:=at_of' hd
  have hil:i < 64:=by simp only [List.length_cons] at hi; omega
  unfold r_Valid_4
  simp only [chn]
  have hn:prv r (i+1)=some x.hi:=by
   unfold prv
   rw [if_neg (by omega),show ((i+1:Nat):Int) - 1=(i:Int) from by omega,hx]
  cases h1:decide (x.lo > x.hi) with
  | true=>have:=of_decide_eq_true h1; simp; intro; omega
  | false =>
   have h1:=of_decide_eq_false h1
   cases h2:decide (x.lo < -1099511627776) with
   | true=>have:=of_decide_eq_true h2; simp [Ar]; intros; omega
   | false =>
    have h2:=of_decide_eq_false h2
    cases h3:decide (x.hi > 1099511627776) with
    | true=>have:=of_decide_eq_true h3; simp [Ar]; intros; omega
    | false =>
     have h3:=of_decide_eq_false h3
     have a1:Ar x.lo:=⟨by omega,by omega⟩
     have a2:Ar x.hi:=⟨by omega,by omega⟩
     have ih:=valid4 r l (i+1) (zn hd) (by simp only [List.length_cons] at hi; omega) (fun h hh=>by rw [hn] at hh; cases hh; exact a2)
     rw [hn] at ih
     simp only [cond_false]
     by_cases h0:i=0
     ·subst h0
      rw [decide_eq_false (by omega),cond_false,ih]
      simp only [prv,if_true]
      exact ⟨fun h=>⟨by omega,a1,a2,fun _ hh=>(by cases hh),h⟩,fun h=>h.2.2.2.2⟩
     ·have e:prv r i=some (r.at ((i:Int) - 1)).hi:=by unfold prv; rw [if_neg h0]
      have ha:=hp _ e
      rw [decide_eq_true (by omega:((i:Nat):Int) > 0),cond_true,w64_eq (n:=((i:Nat):Int) - 1) (by omega) (by omega),e]
      unfold Ar at ha
      rw [w64_eq (by omega) (by omega)]
      cases h4:decide ((r.at ((i:Int) - 1)).hi+1 ≥ x.lo) with
      | true =>
       have:=of_decide_eq_true h4
       simp only [cond_true]
       exact ⟨fun h=>(by cases h),fun h=>by have:=h.2.2.2.1 _ rfl; omega⟩
      | false =>
       have:=of_decide_eq_false h4
       simp only [cond_false]
       rw [ih]
       exact ⟨fun h=>⟨by omega,a1,a2,fun _ hh=>(by cases hh; omega),h⟩,fun h=>h.2.2.2.2⟩
theorem zc {r:GS Sn}:r_Valid r=true↔Ok r.l:=by
 rw [ok_chn]
 unfold r_Valid
 cases h:decide (((r.l.length:Nat):Int) > 64) with
 | true=>have:=of_decide_eq_true h; simp only [cond_true]; exact ⟨fun h=>(by cases h),fun h=>by have:=h.2; omega⟩
 | false =>
  have h:=of_decide_eq_false h
  have k:=valid4 r r.l 0 (List.drop_zero) (by omega) (fun h hh=>by cases hh)
  have e:prv r 0=none:=rfl
  rw [e] at k
  simp only [cond_false]
  rw [← k]
  cases r_Valid_4 r r.l 0 <;> simp <;> omega
theorem valid_no {r:GS Sn}:r_Valid r=false↔¬ Ok r.l:=by rw [← zc]; simp
theorem check_valid (r:GS Sn):zz r=bif r_Valid r then 0 else 20:=by
 cases h:r_Valid r with
 | true=>exact check_iff.2 (zc.1 h)
 | false=>exact check_20 (valid_no.1 h)
theorem same_check (r:GS Sn):zz r=r_Check r:=by rw [check_valid]; rfl
theorem check1_len {r:GS Sn} (h:zz r=0):r.l.length≤64:=(check_iff.1 h).2.2
theorem check2 (a b:GS Sn):ranges_check (GS.some [a,b])=bif r_Valid a then (bif r_Valid b then 0 else 20) else 20:=by
 unfold ranges_check
 simp only [GS.some_l,ranges_check_2,check_valid]
 cases ha:r_Valid a <;> cases hb:r_Valid b <;> simp [check_valid,ha,hb]
theorem check2_iff {a b:GS Sn}:ranges_check (GS.some [a,b])=0↔Ok a.l∧Ok b.l:=by
 rw [check2]
 rw [← zc,← zc]
 cases r_Valid a <;> cases r_Valid b <;> simp
theorem same4 (b:GS Sn):∀ (l:List Sn) (i:Nat),i+l.length=b.l.length→(r_Same_4 b l i=.x0↔l=b.l.drop i)
 | [],i,h=>by
  have:b.l.drop i=[]:=List.drop_eq_nil_iff.2 (by simp at h; omega)
  simp [r_Same_4,this]
 | x::l,i,h=>by
  simp only [List.length_cons] at h
  have hlt:i < b.l.length:=by omega
  have hd:b.l.drop i=b.l[i]::b.l.drop (i+1):=List.drop_eq_getElem_cons hlt
  have hx:=at_of' hd
  unfold r_Same_4
  rw [hx,hd]
  have ih:=same4 b l (i+1) (by omega)
  generalize b.l[i]=y at *
  obtain ⟨x0,x1⟩:=x
  obtain ⟨y0,y1⟩:=y
  simp only [Bool.and_true,List.cons.injEq,Sn.mk.injEq]
  by_cases e0:x0=y0
  ·by_cases e1:x1=y1
   ·subst e0 e1
    simp only [beq_self_eq_true,Bool.and_self,Bool.not_true,cond_false,and_self,true_and]
    exact ih
   ·have:(x1 == y1)=false:=by simp [e1]
    rw [this,Bool.and_false,Bool.not_false,cond_true]
    exact ⟨fun h=>(by cases h),fun h=>absurd h.1.2 e1⟩
  ·have:(x0 == y0)=false:=by simp [e0]
   rw [this,Bool.false_and,Bool.not_false,cond_true]
   exact ⟨fun h=>(by cases h),fun h=>absurd h.1.1 e0⟩
theorem same_iff {a b:GS Sn}:zh a b=true↔a.l=b.l:=by
 unfold zh
 by_cases hl:a.l.length=b.l.length
 ·have:(((a.l.length:Nat):Int) != ((b.l.length:Nat):Int))=false:=by simp [hl]
  rw [this]
  have k:=same4 b a.l 0 (by omega)
  rw [List.drop_zero] at k
  simp only [cond_false]
  rw [← k]
  cases r_Same_4 b a.l 0 <;> simp
 ·have:(((a.l.length:Nat):Int) != ((b.l.length:Nat):Int))=true:=by simp; omega
  rw [this]
  simp only [cond_true]
  exact ⟨fun h=>(by cases h),fun h=>absurd (congrArg List.length h) hl⟩
theorem same_refl {a b:GS Sn} (h:a.l=b.l):zh a b=true:=same_iff.2 h
theorem has1 {x:Sn} {n:Int}:ranges_Has_1 x n=true↔x.lo≤n∧n≤x.hi:=by
 unfold ranges_Has_1
 rw [← in_iff]
 cases yu n x.lo x.hi <;> simp
theorem idx2 (n:Int):∀ (l:List Sn) (i:Nat),(idxHas_2 n l i=.x0∧¬ In l n) ∨ (∃ j x,idxHas_2 n l i=.x1 j x∧In l n)
 | [],i=>.inl ⟨rfl,In_nil⟩
 | x::l,i=>by
  unfold idxHas_2
  cases h:ranges_Has_1 x n with
  | true=>exact .inr ⟨i,x,rfl,In_cons.2 (.inl (has1.1 h))⟩
  | false =>
   have h':¬ (x.lo≤n∧n≤x.hi):=by rw [← has1]; simp [h]
   rcases idx2 n l (i+1) with ⟨h1,h2⟩ | ⟨j,y,h1,h2⟩
   ·exact .inl ⟨h1,fun k=>(In_cons.1 k).elim h' h2⟩
   ·exact .inr ⟨j,y,h1,In_cons.2 (.inr h2)⟩
theorem con_iff {s:GS Sn} {n:Int}:conHas s n=true↔In s.l n:=by
 unfold conHas idxHas
 rcases idx2 n s.l 0 with ⟨h1,h2⟩ | ⟨j,y,h1,h2⟩ <;> rw [h1]
 ·simp [h2]
 ·have:decide (((j:Nat):Int) ≥ 0)=true:=decide_eq_true (by omega)
  simp only [this,cond_true,h2]
theorem has_ok {r:GS Sn} (h:Ok r.l) (n:Int):zJ r n=(inB r.l n,0):=by
 unfold zJ
 rw [check_iff.2 h]
 simp only [bne_self_eq_false,cond_false]
 cases hc:conHas r n with
 | true=>rw [inB_iff.2 (con_iff.1 hc)]; rfl
 | false =>
  have:¬ In r.l n:=by rw [← con_iff]; simp [hc]
  rw [inB_false.2 this]; rfl
end Go.VS

namespace Go.VS
open Go Go.Proofs
set_option maxHeartbeats 0
set_option linter.unusedSimpArgs false
set_option linter.unusedVariables false
theorem zK (l:List Sn):(zo zm l).length=l.length:=srtG_len gcmp_lo l
theorem yq (o nxt:Nat) (cap:Option Nat) (l:List Sn) (hl:l.length≤1099511627776):(lim cfg).inl 103 [.lsl o 0 l.length 2 cap,.fn (.func 104) [] []] [(o,⟨l.map Sn.D,2,false⟩)] nxt=some (.tup [],[(o,⟨(zo zm l).map Sn.D,2,false⟩)],nxt) :=
 inl_of (sortN_at (f:=Sn.D) (g:=104) (cf:=zm) (to:=fun x=>(x.lo,x.hi)) (of:=fun p=>⟨p.1,p.2⟩) (fun _=>rfl) (fun _=>rfl) o nxt cap l hl)
theorem T_sort_nil (nxt:Nat):(lim cfg).inl 103 [.sl true [] 0 none,.fn (.func 104) [] []] [] nxt=some (.tup [],[],nxt):=inl_of (sortN_nil (g:=104) (cf:=zm) nxt)

theorem z6:EncOK 2 Sn.D:=⟨fun _ _ _=>rfl,fun _ _=>rfl,fun _ _ _=>rfl,fun _=>⟨rfl,rfl⟩⟩

def zl (lo:Int) (hi:Int):(GS Sn) :=
 bif decide (lo > hi) then
  GS.nil
 else
  GS.some [(⟨lo,hi⟩:Sn)]

theorem T_ranges_some (lo:Int) (hi:Int):(lim cfg).pure 77 [I lo,I hi]=some (GS.D Sn.D 2 (zl lo hi)):=by
 unfold zl
 cases h1:decide (lo > hi) with
 | true =>
  have g1:=of_decide_eq_true h1
  exact zu [.dec true] (Ai h1 trivial) (by kernel_rfl)
 | false =>
  have g1:=of_decide_eq_false h1
  exact zu [.dec false] (Ai h1 trivial) (by kernel_rfl)

theorem some1 (lo hi:Int):(zl lo hi).l.length≤1:=by
 unfold zl
 cases decide (lo > hi) <;> simp [GS.nil,GS.some]
noncomputable def lp70_3:Code:=subC [1,1,0,1,0,0] (bodyC Tryz.f70)

noncomputable def lp69_4:Code:=subC [1,1,1,0,1,0,0] (bodyC Tryz.f69)

end Go.VS

namespace Go.VS
open Go Go.Proofs
set_option maxHeartbeats 0
set_option linter.unusedSimpArgs false
set_option linter.unusedVariables false
theorem add_some {n m k:Nat} {lo hi:Int} (h:(n+1) * k≤m):(n+(zl lo hi).l.length) * k≤m:=Nat.le_trans (Nat.mul_le_mul_right k (Nat.add_le_add_left (some1 lo hi) n)) h
theorem add_some' {n m:Nat} {lo hi:Int} (h:n+1≤m):n+(zl lo hi).l.length≤m:=Nat.le_trans (Nat.add_le_add_left (some1 lo hi) n) h
theorem one_some {m k:Nat} {lo hi:Int} (h:1 * k≤m):(zl lo hi).l.length * k≤m:=Nat.le_trans (Nat.mul_le_mul_right k (some1 lo hi)) h
theorem one_some' {m:Nat} {lo hi:Int} (h:1≤m):(zl lo hi).l.length≤m:=Nat.le_trans (some1 lo hi) h

inductive LR_ranges_outside_4 where
 | x0 (va4_0:List Sn) (va4_1:Int)
 | x1 (v4_0:Int)
instance:Inhabited LR_ranges_outside_4:=⟨.x0 default default⟩
def ranges_outside_4a:List Sn→(List Sn)→Int→LR_ranges_outside_4
 | [],va4_0,va4_1=>.x0 va4_0 va4_1
 | x4::xH,va4_0,va4_1 =>
  bif ((zl va4_1 (w64 (x4.lo - 1))).l).isEmpty then
   ranges_outside_4a xH va4_0 (w64 (x4.hi+1))
  else
   ranges_outside_4a xH (va4_0++((zl va4_1 (w64 (x4.lo - 1))).l)) (w64 (x4.hi+1))
def ranges_outside_4:List Sn→Int→LR_ranges_outside_4
 | [],v4_0=>.x1 v4_0
 | x4::xH,v4_0 =>
  bif ((zl v4_0 (w64 (x4.lo - 1))).l).isEmpty then
   ranges_outside_4 xH (w64 (x4.hi+1))
  else
   ranges_outside_4a xH ((zl v4_0 (w64 (x4.lo - 1))).l) (w64 (x4.hi+1))
def ranges_outside (r:GS Sn):(GS Sn) :=
 match ranges_outside_4 r.l (-1099511627776) with
 | .x0 va4_0 va4_1 =>
  bif ((zl va4_1 1099511627776).l).isEmpty then
   GS.some va4_0
  else
   GS.some (va4_0++((zl va4_1 1099511627776).l))
 | .x1 v4_0 =>
  bif ((zl v4_0 1099511627776).l).isEmpty then
   GS.nil
  else
   GS.some ((zl v4_0 1099511627776).l)

end Go.VS

namespace Go.VS
open Go Go.Proofs
set_option maxHeartbeats 0
set_option linter.unusedSimpArgs false
set_option linter.unusedVariables false
def sd63 (xl:List Sn) (xf:Nat) (xg:List Sn) (yP:Sn) (yI:List Sn):St:=⟨65,[(12,I ((xf+1:Nat):Int)),(60,I ((xf+1:Nat):Int)),(55,.lref 2 ((w64 (((yI.length:Nat):Int) - 1)).toNat) 2 1),(54,.lref 2 ((w64 (((yI.length:Nat):Int) - 1)).toNat) 2 0),(53,I (yj ((yI.getD ((w64 (((yI.length:Nat):Int) - 1)).toNat) default).hi) yP.hi)),(52,I yP.hi),(51,.lref 3 0 2 1),(50,I ((yI.getD ((w64 (((yI.length:Nat):Int) - 1)).toNat) default).hi)),(49,.lref 2 ((w64 (((yI.length:Nat):Int) - 1)).toNat) 2 1),(48,.lref 2 ((w64 (((yI.length:Nat):Int) - 1)).toNat) 2 0),(47,I (w64 (((yI.length:Nat):Int) - 1))),(46,I ((yI.length:Nat):Int)),(45,.lsl 2 0 yI.length 2 none),(44,I (w64 (((yI.length:Nat):Int) - 1))),(43,I ((yI.length:Nat):Int)),(42,.lsl 2 0 yI.length 2 none),(41,B true),(40,B true),(39,I (w64 (((yI.getD ((w64 (((yI.length:Nat):Int) - 1)).toNat) default).hi)+1))),(38,I ((yI.getD ((w64 (((yI.length:Nat):Int) - 1)).toNat) default).hi)),(37,.lref 2 ((w64 (((yI.length:Nat):Int) - 1)).toNat) 2 1),(36,.lref 2 ((w64 (((yI.length:Nat):Int) - 1)).toNat) 2 0),(35,I (w64 (((yI.length:Nat):Int) - 1))),(34,I ((yI.length:Nat):Int)),(33,.lsl 2 0 yI.length 2 none),(32,I yP.lo),(31,.lref 3 0 2 0),(30,B true),(29,B true),(28,I ((yI.length:Nat):Int)),(7,I ((yI.length:Nat):Int)),(27,I ((yI.length:Nat):Int)),(26,.lsl 2 0 yI.length 2 none),(25,B false),(24,B false),(23,B true),(22,I yP.hi),(21,.lref 3 0 2 1),(20,B false),(19,B false),(18,B true),(17,I yP.lo),(16,.lref 3 0 2 0),(6,.lref 3 0 2 0),(15,.agg [I yP.lo,I yP.hi]),(14,.lref 1 xf 2 0),(13,B true),(4,.lsl 2 0 yI.length 2 none),(10,.lsl 1 0 xl.length 2 none),(11,I ((xl.length:Nat):Int)),(12,I ((xf:Nat):Int))],[(1,⟨xg.map Sn.D,2,false⟩),(2,⟨(yI.set ((w64 (((yI.length:Nat):Int) - 1)).toNat) (⟨(yI.getD ((w64 (((yI.length:Nat):Int) - 1)).toNat) default).lo,yj ((yI.getD ((w64 (((yI.length:Nat):Int) - 1)).toNat) default).hi) yP.hi⟩:Sn)).map Sn.D,2,false⟩),(3,⟨[.agg [I yP.lo,I yP.hi]],2,false⟩)],4,2⟩

def sd64 (xl:List Sn) (xf:Nat) (xg:List Sn) (yP:Sn) (yI:List Sn):St:=⟨65,[(12,I ((xf+1:Nat):Int)),(60,I ((xf+1:Nat):Int)),(4,.lsl 5 0 ((yI++[yP]).length) 2 none),(59,.lsl 5 0 ((yI++[yP]).length) 2 none),(58,.lsl 4 0 1 2 (some 1)),(57,.agg [I yP.lo,I yP.hi]),(56,.lsl 2 0 yI.length 2 none),(41,B false),(40,B false),(39,I (w64 (((yI.getD ((w64 (((yI.length:Nat):Int) - 1)).toNat) default).hi)+1))),(38,I ((yI.getD ((w64 (((yI.length:Nat):Int) - 1)).toNat) default).hi)),(37,.lref 2 ((w64 (((yI.length:Nat):Int) - 1)).toNat) 2 1),(36,.lref 2 ((w64 (((yI.length:Nat):Int) - 1)).toNat) 2 0),(35,I (w64 (((yI.length:Nat):Int) - 1))),(34,I ((yI.length:Nat):Int)),(33,.lsl 2 0 yI.length 2 none),(32,I yP.lo),(31,.lref 3 0 2 0),(30,B true),(29,B true),(28,I ((yI.length:Nat):Int)),(7,I ((yI.length:Nat):Int)),(27,I ((yI.length:Nat):Int)),(26,.lsl 2 0 yI.length 2 none),(25,B false),(24,B false),(23,B true),(22,I yP.hi),(21,.lref 3 0 2 1),(20,B false),(19,B false),(18,B true),(17,I yP.lo),(16,.lref 3 0 2 0),(6,.lref 3 0 2 0),(15,.agg [I yP.lo,I yP.hi]),(14,.lref 1 xf 2 0),(13,B true),(4,.lsl 2 0 yI.length 2 none),(10,.lsl 1 0 xl.length 2 none),(11,I ((xl.length:Nat):Int)),(12,I ((xf:Nat):Int))],[(1,⟨xg.map Sn.D,2,false⟩),(3,⟨[.agg [I yP.lo,I yP.hi]],2,false⟩),(4,⟨[.agg [I yP.lo,I yP.hi]],2,false⟩),(5,⟨(yI++[yP]).map Sn.D,2,false⟩)],6,2⟩

def sd65 (xl:List Sn) (xf:Nat) (xg:List Sn) (yP:Sn) (yI:List Sn):St:=⟨65,[(12,I ((xf+1:Nat):Int)),(60,I ((xf+1:Nat):Int)),(4,.lsl 5 0 ((yI++[yP]).length) 2 none),(59,.lsl 5 0 ((yI++[yP]).length) 2 none),(58,.lsl 4 0 1 2 (some 1)),(57,.agg [I yP.lo,I yP.hi]),(56,.lsl 2 0 yI.length 2 none),(41,B false),(40,.tup []),(39,.tup []),(38,.tup []),(37,.tup []),(36,.tup []),(35,.tup []),(34,.tup []),(33,.tup []),(32,.tup []),(31,.tup []),(30,B false),(29,B false),(28,I ((yI.length:Nat):Int)),(7,I ((yI.length:Nat):Int)),(27,I ((yI.length:Nat):Int)),(26,.lsl 2 0 yI.length 2 none),(25,B false),(24,B false),(23,B true),(22,I yP.hi),(21,.lref 3 0 2 1),(20,B false),(19,B false),(18,B true),(17,I yP.lo),(16,.lref 3 0 2 0),(6,.lref 3 0 2 0),(15,.agg [I yP.lo,I yP.hi]),(14,.lref 1 xf 2 0),(13,B true),(4,.lsl 2 0 yI.length 2 none),(10,.lsl 1 0 xl.length 2 none),(11,I ((xl.length:Nat):Int)),(12,I ((xf:Nat):Int))],[(1,⟨xg.map Sn.D,2,false⟩),(3,⟨[.agg [I yP.lo,I yP.hi]],2,false⟩),(4,⟨[.agg [I yP.lo,I yP.hi]],2,false⟩),(5,⟨(yI++[yP]).map Sn.D,2,false⟩)],6,2⟩

def sd66 (xl:List Sn) (xf:Nat) (xg:List Sn) (yP:Sn):St:=⟨65,[(12,I ((xf+1:Nat):Int)),(60,I ((xf+1:Nat):Int)),(4,.lsl 4 0 1 2 none),(59,.lsl 4 0 1 2 none),(58,.lsl 3 0 1 2 (some 1)),(57,.agg [I yP.lo,I yP.hi]),(56,.sl true [] 0 none),(41,B false),(40,.tup []),(39,.tup []),(38,.tup []),(37,.tup []),(36,.tup []),(35,.tup []),(34,.tup []),(33,.tup []),(32,.tup []),(31,.tup []),(30,B false),(29,B false),(28,I 0),(7,I 0),(27,I 0),(26,.sl true [] 0 none),(25,B false),(24,B false),(23,B true),(22,I yP.hi),(21,.lref 2 0 2 1),(20,B false),(19,B false),(18,B true),(17,I yP.lo),(16,.lref 2 0 2 0),(6,.lref 2 0 2 0),(15,.agg [I yP.lo,I yP.hi]),(14,.lref 1 xf 2 0),(13,B true),(4,.sl true [] 0 none),(10,.lsl 1 0 xl.length 2 none),(11,I ((xl.length:Nat):Int)),(12,I ((xf:Nat):Int))],[(1,⟨xg.map Sn.D,2,false⟩),(2,⟨[.agg [I yP.lo,I yP.hi]],2,false⟩),(3,⟨[.agg [I yP.lo,I yP.hi]],2,false⟩),(4,⟨[.agg [I yP.lo,I yP.hi]],2,false⟩)],5,2⟩

inductive LR_ranges_gathered_4p1 where
 | x0 (yI:List Sn)
 | x1 (xf:Nat) (yP:Sn) (yI:List Sn)
 | x2 (xf:Nat) (yP:Sn) (yI:List Sn)
 | x3
 | x4 (xf:Nat) (yP:Sn)
 | x5 (xf:Nat) (yP:Sn)
instance:Inhabited LR_ranges_gathered_4p1:=⟨.x0 default⟩
def ye:List Sn→Nat→(List Sn)→LR_ranges_gathered_4p1
 | [],xf,yI=>.x0 yI
 | yP::xq,xf,yI =>
  bif (zv yP.lo) then
   bif (zv yP.hi) then
    bif decide (((yI.length:Nat):Int) > 0) then
     bif decide (yP.lo≤(w64 (((yI.getD ((w64 (((yI.length:Nat):Int) - 1)).toNat) default).hi)+1))) then
      ye xq (xf+1) (yI.set ((w64 (((yI.length:Nat):Int) - 1)).toNat) (⟨(yI.getD ((w64 (((yI.length:Nat):Int) - 1)).toNat) default).lo,yj ((yI.getD ((w64 (((yI.length:Nat):Int) - 1)).toNat) default).hi) yP.hi⟩:Sn))
     else
      ye xq (xf+1) (yI++[yP])
    else
     ye xq (xf+1) (yI++[yP])
   else
    .x1 xf yP yI
  else
   .x2 xf yP yI
def zD:List Sn→Nat→LR_ranges_gathered_4p1
 | [],xf=>.x3
 | yP::xq,xf =>
  bif (zv yP.lo) then
   bif (zv yP.hi) then
    ye xq (xf+1) [yP]
   else
    .x4 xf yP
  else
   .x5 xf yP
def zp (xl:List Sn) (xg:List Sn):LR_ranges_gathered_4p1→Exit × St
 | .x0 yI=>((.exit 0),⟨65,[(13,B false),(4,.lsl 2 0 yI.length 2 none),(10,.lsl 1 0 xl.length 2 none),(11,I ((xl.length:Nat):Int)),(12,I ((xg.length:Nat):Int))],[(1,⟨xg.map Sn.D,2,false⟩),(2,⟨yI.map Sn.D,2,false⟩)],3,2⟩)
 | .x1 xf yP yI=>(.ret,⟨65,[(3,I 2),(2,.sl true [] 0 none),(25,B true),(24,B true),(23,B false),(22,I yP.hi),(21,.lref 3 0 2 1),(20,B false),(19,B false),(18,B true),(17,I yP.lo),(16,.lref 3 0 2 0),(6,.lref 3 0 2 0),(15,.agg [I yP.lo,I yP.hi]),(14,.lref 1 xf 2 0),(13,B true),(4,.lsl 2 0 yI.length 2 none),(10,.lsl 1 0 xl.length 2 none),(11,I ((xl.length:Nat):Int)),(12,I ((xf:Nat):Int))],[(1,⟨xg.map Sn.D,2,false⟩),(2,⟨yI.map Sn.D,2,false⟩),(3,⟨[.agg [I yP.lo,I yP.hi]],2,false⟩)],4,2⟩)
 | .x2 xf yP yI=>(.ret,⟨65,[(3,I 2),(2,.sl true [] 0 none),(25,B true),(24,.tup []),(23,.tup []),(22,.tup []),(21,.tup []),(20,B true),(19,B true),(18,B false),(17,I yP.lo),(16,.lref 3 0 2 0),(6,.lref 3 0 2 0),(15,.agg [I yP.lo,I yP.hi]),(14,.lref 1 xf 2 0),(13,B true),(4,.lsl 2 0 yI.length 2 none),(10,.lsl 1 0 xl.length 2 none),(11,I ((xl.length:Nat):Int)),(12,I ((xf:Nat):Int))],[(1,⟨xg.map Sn.D,2,false⟩),(2,⟨yI.map Sn.D,2,false⟩),(3,⟨[.agg [I yP.lo,I yP.hi]],2,false⟩)],4,2⟩)
 | .x3=>((.exit 0),⟨65,[(13,B false),(4,.sl true [] 0 none),(10,.lsl 1 0 xl.length 2 none),(11,I ((xl.length:Nat):Int)),(12,I ((xg.length:Nat):Int))],[(1,⟨xg.map Sn.D,2,false⟩)],2,2⟩)
 | .x4 xf yP=>(.ret,⟨65,[(3,I 2),(2,.sl true [] 0 none),(25,B true),(24,B true),(23,B false),(22,I yP.hi),(21,.lref 2 0 2 1),(20,B false),(19,B false),(18,B true),(17,I yP.lo),(16,.lref 2 0 2 0),(6,.lref 2 0 2 0),(15,.agg [I yP.lo,I yP.hi]),(14,.lref 1 xf 2 0),(13,B true),(4,.sl true [] 0 none),(10,.lsl 1 0 xl.length 2 none),(11,I ((xl.length:Nat):Int)),(12,I ((xf:Nat):Int))],[(1,⟨xg.map Sn.D,2,false⟩),(2,⟨[.agg [I yP.lo,I yP.hi]],2,false⟩)],3,2⟩)
 | .x5 xf yP=>(.ret,⟨65,[(3,I 2),(2,.sl true [] 0 none),(25,B true),(24,.tup []),(23,.tup []),(22,.tup []),(21,.tup []),(20,B true),(19,B true),(18,B false),(17,I yP.lo),(16,.lref 2 0 2 0),(6,.lref 2 0 2 0),(15,.agg [I yP.lo,I yP.hi]),(14,.lref 1 xf 2 0),(13,B true),(4,.sl true [] 0 none),(10,.lsl 1 0 xl.length 2 none),(11,I ((xl.length:Nat):Int)),(12,I ((xf:Nat):Int))],[(1,⟨xg.map Sn.D,2,false⟩),(2,⟨[.agg [I yP.lo,I yP.hi]],2,false⟩)],3,2⟩)
def zt (xl:List Sn) (xg:List Sn):LR_ranges_gathered_4p1→Prop
 | .x0 yI=>(1≤yI.length)∧(yI.length≤xg.length)
 | .x1 xf yP yI=>(1≤yI.length)∧(yI.length≤xf)
 | .x2 xf yP yI=>(1≤yI.length)∧(yI.length≤xf)
 | .x3=>True
 | .x4 xf yP=>True
 | .x5 xf yP=>True
def ranges_gathered_4p1a_l_o1 (xf:Nat) (yP:Sn):List Ora:=[.dec true,.op (some 14) ⟨.lref 1 xf 2 0,[],[],3⟩,.op (some 15) ⟨.agg [I yP.lo,I yP.hi],[],[1],3⟩,.pure (B (zv yP.lo))]
def ranges_gathered_4p1a_l_o2 (yP:Sn) (yI:List Sn):List Ora:=[.dec true,.pure (B (zv yP.hi)),.dec true,.dec true,.op (some 36) ⟨.lref 2 ((w64 (((yI.length:Nat):Int) - 1)).toNat) 2 0,[],[],4⟩,.op (some 38) ⟨I ((yI.getD ((w64 (((yI.length:Nat):Int) - 1)).toNat) default).hi),[],[2],4⟩]
theorem lp_ranges_gathered_4p1a (xl:List Sn) (xg:List Sn):∀ (xq:List Sn) (xf:Nat) (yI:List Sn) (xv:xg.drop xf=xq) (hi4p1:xf≤xg.length) (hz4p1_va4p1_0:1≤yI.length) (hq4p1:xg.length=xl.length) (hg4p1_va4p1_0:yI.length≤xf) (hL4p1:xg.length≤1099511627776),(lim cfg).loop 69 lp69_4 ⟨65,[(4,.lsl 2 0 yI.length 2 none),(10,.lsl 1 0 xl.length 2 none),(11,I ((xl.length:Nat):Int)),(12,I ((xf:Nat):Int))],[(1,⟨xg.map Sn.D,2,false⟩),(2,⟨yI.map Sn.D,2,false⟩)],3,2⟩=some (zp xl xg (ye xq xf yI)):=by
 intro xq
 induction xq with
 | nil =>
  intro xf yI xv hi4p1 hz4p1_va4p1_0 hq4p1 hg4p1_va4p1_0 hL4p1
  unfold ye
  obtain rfl:xf=xg.length:=nil_eq xv hi4p1
  exact yc [.dec false] (Ai (lt_no' xv hq4p1) trivial) (by kernel_rfl)
 | cons yP xq ih =>
  intro xf yI xv hi4p1 hz4p1_va4p1_0 hq4p1 hg4p1_va4p1_0 hL4p1
  have hlt4p1:=zj xv
  unfold ye
  have p1:=(idx_row (C:=cfg) (nxt:=3) (t:=22) (ty:=ty22) (te:=yl) (e:=25) (o:=1) (len:=xl.length) (sz:=2) (cap:=none) (i:=((xf:Nat):Int)) (by kernel_rfl) rfl (by kernel_rfl) rfl (by omega) (by omega))
  have p2:=(load_row (C:=cfg) (objs:=[(1,⟨xg.map Sn.D,2,false⟩),(2,⟨yI.map Sn.D,2,false⟩)]) (nxt:=3) (t:=25) (ty:=yl) (o:=1) (n:=xf) (sz:=2) (sub:=0) (ob:=⟨xg.map Sn.D,2,false⟩) (e:=Sn.D yP) (d:=.agg [I yP.lo,I yP.hi]) (by kernel_rfl) (by kernel_rfl) rfl (row_at (f:=Sn.D) xv) (by kernel_rfl))
  cases h25:(zv yP.lo) with
  | true =>
   cases h26:(zv yP.hi) with
   | true =>
    cases h27:decide (((yI.length:Nat):Int) > 0) with
    | true =>
     have g27:=of_decide_eq_true h27
     have p3:=(idx_row (C:=cfg) (nxt:=4) (t:=23) (ty:=ty23) (te:=yl) (e:=25) (o:=2) (len:=yI.length) (sz:=2) (cap:=none) (i:=w64 (((yI.length:Nat):Int) - 1)) (by kernel_rfl) rfl (by kernel_rfl) rfl (by simp only [List.length_append,List.length_cons,List.length_nil,zT] at * <;> omega) (by simp only [List.length_append,List.length_cons,List.length_nil,zT] at * <;> omega))
     have p4:=(load_row (C:=cfg) (objs:=[(1,⟨xg.map Sn.D,2,false⟩),(2,⟨yI.map Sn.D,2,false⟩),(3,⟨[.agg [I yP.lo,I yP.hi]],2,false⟩)]) (nxt:=4) (t:=3) (ty:=ty3) (o:=2) (n:=(w64 (((yI.length:Nat):Int) - 1)).toNat) (sz:=2) (sub:=1) (ob:=⟨yI.map Sn.D,2,false⟩) (e:=Sn.D (yI.getD ((w64 (((yI.length:Nat):Int) - 1)).toNat) default)) (d:=I ((yI.getD ((w64 (((yI.length:Nat):Int) - 1)).toNat) default).hi)) (by kernel_rfl) (by kernel_rfl) rfl (row_get (f:=Sn.D) (by simp only [List.length_append,List.length_cons,List.length_nil,zT] at * <;> omega)) (by kernel_rfl))
     cases h28:decide (yP.lo≤(w64 (((yI.getD ((w64 (((yI.length:Nat):Int) - 1)).toNat) default).hi)+1))) with
     | true =>
      have g28:=of_decide_eq_true h28
      exact zR (ks:=[4,10,11,12]) (st':=(sd63 xl xf xg yP yI)) ((ranges_gathered_4p1a_l_o1 xf yP)++((ranges_gathered_4p1a_l_o2 yP yI)++[.dec true,.op (some 48) ⟨.lref 2 ((w64 (((yI.length:Nat):Int) - 1)).toNat) 2 0,[],[],4⟩,.op (some 50) ⟨I ((yI.getD ((w64 (((yI.length:Nat):Int) - 1)).toNat) default).hi),[],[2],4⟩,.op (some 54) ⟨.lref 2 ((w64 (((yI.length:Nat):Int) - 1)).toNat) 2 0,[],[],4⟩,.stS 2 ⟨.tup [],[(2,some ⟨(yI.set ((w64 (((yI.length:Nat):Int) - 1)).toNat) (⟨(yI.getD ((w64 (((yI.length:Nat):Int) - 1)).toNat) default).lo,yj ((yI.getD ((w64 (((yI.length:Nat):Int) - 1)).toNat) default).hi) yP.hi⟩:Sn)).map Sn.D,2,false⟩)],[2],4⟩,.rw 60 (I ((xf+1:Nat):Int))])) (Ai (ya (i:=xf) (by have:=zj xv; omega)) (Ai (store_row (C:=cfg) (objs:=[(1,⟨xg.map Sn.D,2,false⟩),(2,⟨yI.map Sn.D,2,false⟩),(3,⟨[.agg [I yP.lo,I yP.hi]],2,false⟩)]) (nxt:=4) (t:=3) (ty:=ty3) (o:=2) (n:=(w64 (((yI.length:Nat):Int) - 1)).toNat) (sz:=2) (sub:=1) (els:=yI.map Sn.D) (els':=(yI.set ((w64 (((yI.length:Nat):Int) - 1)).toNat) (⟨(yI.getD ((w64 (((yI.length:Nat):Int) - 1)).toNat) default).lo,yj ((yI.getD ((w64 (((yI.length:Nat):Int) - 1)).toNat) default).hi) yP.hi⟩:Sn)).map Sn.D) (e:=Sn.D (yI.getD ((w64 (((yI.length:Nat):Int) - 1)).toNat) default)) (e':=Sn.D (⟨(yI.getD ((w64 (((yI.length:Nat):Int) - 1)).toNat) default).lo,yj ((yI.getD ((w64 (((yI.length:Nat):Int) - 1)).toNat) default).hi) yP.hi⟩:Sn)) (v:=I (yj ((yI.getD ((w64 (((yI.length:Nat):Int) - 1)).toNat) default).hi) yP.hi)) (by kernel_rfl) (by kernel_rfl) (row_get (f:=Sn.D) (by simp only [List.length_append,List.length_cons,List.length_nil,zT] at * <;> omega)) rfl (by kernel_rfl) rfl (by kernel_rfl) (row_set (f:=Sn.D))) (Ai (idx_row (C:=cfg) (nxt:=4) (t:=23) (ty:=ty23) (te:=yl) (e:=25) (o:=2) (len:=yI.length) (sz:=2) (cap:=none) (i:=w64 (((yI.length:Nat):Int) - 1)) (by kernel_rfl) rfl (by kernel_rfl) rfl (by simp only [List.length_append,List.length_cons,List.length_nil,zT] at * <;> omega) (by simp only [List.length_append,List.length_cons,List.length_nil,zT] at * <;> omega)) (Ai (load_row (C:=cfg) (objs:=[(1,⟨xg.map Sn.D,2,false⟩),(2,⟨yI.map Sn.D,2,false⟩),(3,⟨[.agg [I yP.lo,I yP.hi]],2,false⟩)]) (nxt:=4) (t:=3) (ty:=ty3) (o:=2) (n:=(w64 (((yI.length:Nat):Int) - 1)).toNat) (sz:=2) (sub:=1) (ob:=⟨yI.map Sn.D,2,false⟩) (e:=Sn.D (yI.getD ((w64 (((yI.length:Nat):Int) - 1)).toNat) default)) (d:=I ((yI.getD ((w64 (((yI.length:Nat):Int) - 1)).toNat) default).hi)) (by kernel_rfl) (by kernel_rfl) rfl (row_get (f:=Sn.D) (by simp only [List.length_append,List.length_cons,List.length_nil,zT] at * <;> omega)) (by kernel_rfl)) (Ai (idx_row (C:=cfg) (nxt:=4) (t:=23) (ty:=ty23) (te:=yl) (e:=25) (o:=2) (len:=yI.length) (sz:=2) (cap:=none) (i:=w64 (((yI.length:Nat):Int) - 1)) (by kernel_rfl) rfl (by kernel_rfl) rfl (by simp only [List.length_append,List.length_cons,List.length_nil,zT] at * <;> omega) (by simp only [List.length_append,List.length_cons,List.length_nil,zT] at * <;> omega)) (Ai h28 (Ai p4 (Ai p3 (Ai h27 (Ai h26 (Ai (zk yP.hi) (Ai h25 (Ai (zk yP.lo) (Ai p2 (Ai p1 (Ai (lt_at' xv hq4p1) trivial)))))))))))))))) (by kernel_rfl) (by (simp only [sd63,go_sem,List.length_set,Nat.reduceAdd,Nat.reduceEqDiff,Nat.reduceLT,Nat.reduceLeDiff,bI2,zb.idsL,zb.renL,zb.snapAll,z6.idsL,z6.renL,z6.snapAll]) <;> rfl) (ih (xf+1) (yI.set ((w64 (((yI.length:Nat):Int) - 1)).toNat) (⟨(yI.getD ((w64 (((yI.length:Nat):Int) - 1)).toNat) default).lo,yj ((yI.getD ((w64 (((yI.length:Nat):Int) - 1)).toNat) default).hi) yP.hi⟩:Sn)) (zn xv) (zj xv) (by simp only [List.length_set] at * <;> omega) (by omega) (by simp only [List.length_set] at * <;> omega) (by omega)) (by kernel_rfl)
     | false =>
      have g28:=of_decide_eq_false h28
      exact zR (ks:=[4,10,11,12]) (st':=(sd64 xl xf xg yP yI)) ((ranges_gathered_4p1a_l_o1 xf yP)++((ranges_gathered_4p1a_l_o2 yP yI)++[.dec false,.op (some 59) ⟨.lsl 5 0 ((yI++[yP]).length) 2 none,[(2,none),(5,some ⟨(yI++[yP]).map Sn.D,2,false⟩)],[2,4],6⟩,.rw 60 (I ((xf+1:Nat):Int))])) (Ai (ya (i:=xf) (by have:=zj xv; omega)) (Ai (app_row (f:=Sn.D) (te:=yl) (gO:=zB [(1,⟨xg.map Sn.D,2,false⟩),(2,⟨yI.map Sn.D,2,false⟩),(3,⟨[.agg [I yP.lo,I yP.hi]],2,false⟩),(4,⟨[.agg [I yP.lo,I yP.hi]],2,false⟩)]) (nxt:=5) (o:=2) (o2:=4) (fz:=false) z6 yI yP (by kernel_rfl) (by kernel_rfl) rfl (by kernel_rfl) (by decide) ⟨by simp only [yl,big] <;> (omega),by simp only [big] <;> (omega)⟩) (Ai h28 (Ai p4 (Ai p3 (Ai h27 (Ai h26 (Ai (zk yP.hi) (Ai h25 (Ai (zk yP.lo) (Ai p2 (Ai p1 (Ai (lt_at' xv hq4p1) trivial))))))))))))) (by kernel_rfl) (by (simp only [sd64,go_sem,List.length_set,Nat.reduceAdd,Nat.reduceEqDiff,Nat.reduceLT,Nat.reduceLeDiff,bI2,zb.idsL,zb.renL,zb.snapAll,z6.idsL,z6.renL,z6.snapAll]) <;> rfl) (ih (xf+1) (yI++[yP]) (zn xv) (zj xv) (by simp only [List.length_append,List.length_cons,List.length_nil] at * <;> omega) (by omega) (by simp only [List.length_append,List.length_cons,List.length_nil] at * <;> omega) (by omega)) (by kernel_rfl)
    | false =>
     have g27:=of_decide_eq_false h27
     exact zR (ks:=[4,10,11,12]) (st':=(sd65 xl xf xg yP yI)) ((ranges_gathered_4p1a_l_o1 xf yP)++[.dec true,.pure (B (zv yP.hi)),.dec true,.dec false,.op (some 59) ⟨.lsl 5 0 ((yI++[yP]).length) 2 none,[(2,none),(5,some ⟨(yI++[yP]).map Sn.D,2,false⟩)],[2,4],6⟩,.rw 60 (I ((xf+1:Nat):Int))]) (Ai (ya (i:=xf) (by have:=zj xv; omega)) (Ai (app_row (f:=Sn.D) (te:=yl) (gO:=zB [(1,⟨xg.map Sn.D,2,false⟩),(2,⟨yI.map Sn.D,2,false⟩),(3,⟨[.agg [I yP.lo,I yP.hi]],2,false⟩),(4,⟨[.agg [I yP.lo,I yP.hi]],2,false⟩)]) (nxt:=5) (o:=2) (o2:=4) (fz:=false) z6 yI yP (by kernel_rfl) (by kernel_rfl) rfl (by kernel_rfl) (by decide) ⟨by simp only [yl,big] <;> (omega),by simp only [big] <;> (omega)⟩) (Ai h27 (Ai h26 (Ai (zk yP.hi) (Ai h25 (Ai (zk yP.lo) (Ai p2 (Ai p1 (Ai (lt_at' xv hq4p1) trivial)))))))))) (by kernel_rfl) (by (simp only [sd65,go_sem,List.length_set,Nat.reduceAdd,Nat.reduceEqDiff,Nat.reduceLT,Nat.reduceLeDiff,bI2,zb.idsL,zb.renL,zb.snapAll,z6.idsL,z6.renL,z6.snapAll]) <;> rfl) (ih (xf+1) (yI++[yP]) (zn xv) (zj xv) (by omega) (by omega) (by omega) (by omega)) (by kernel_rfl)
   | false =>
    exact yc ((ranges_gathered_4p1a_l_o1 xf yP)++[.dec true,.pure (B (zv yP.hi)),.dec false]) (Ai h26 (Ai (zk yP.hi) (Ai h25 (Ai (zk yP.lo) (Ai p2 (Ai p1 (Ai (lt_at' xv hq4p1) trivial))))))) (by kernel_rfl)
  | false =>
   exact yc ((ranges_gathered_4p1a_l_o1 xf yP)++[.dec false]) (Ai h25 (Ai (zk yP.lo) (Ai p2 (Ai p1 (Ai (lt_at' xv hq4p1) trivial))))) (by kernel_rfl)
theorem ivt_ranges_gathered_4p1a (xl:List Sn) (xg:List Sn):∀ (xq:List Sn) (xf:Nat) (yI:List Sn) (xv:xg.drop xf=xq) (hi4p1:xf≤xg.length) (hz4p1_va4p1_0:1≤yI.length) (hq4p1:xg.length=xl.length) (hg4p1_va4p1_0:yI.length≤xf) (hL4p1:xg.length≤1099511627776),zt xl xg (ye xq xf yI):=by
 intro xq
 induction xq with
 | nil =>
  intro xf yI xv hi4p1 hz4p1_va4p1_0 hq4p1 hg4p1_va4p1_0 hL4p1
  unfold ye
  obtain rfl:xf=xg.length:=nil_eq xv hi4p1
  exact ⟨hz4p1_va4p1_0,hg4p1_va4p1_0⟩
 | cons yP xq ih =>
  intro xf yI xv hi4p1 hz4p1_va4p1_0 hq4p1 hg4p1_va4p1_0 hL4p1
  have hlt4p1:=zj xv
  unfold ye
  cases h25:(zv yP.lo) with
  | true =>
   cases h26:(zv yP.hi) with
   | true =>
    cases h27:decide (((yI.length:Nat):Int) > 0) with
    | true =>
     have g27:=of_decide_eq_true h27
     cases h28:decide (yP.lo≤(w64 (((yI.getD ((w64 (((yI.length:Nat):Int) - 1)).toNat) default).hi)+1))) with
     | true =>
      have g28:=of_decide_eq_true h28
      exact ih (xf+1) (yI.set ((w64 (((yI.length:Nat):Int) - 1)).toNat) (⟨(yI.getD ((w64 (((yI.length:Nat):Int) - 1)).toNat) default).lo,yj ((yI.getD ((w64 (((yI.length:Nat):Int) - 1)).toNat) default).hi) yP.hi⟩:Sn)) (zn xv) (zj xv) (by simp only [List.length_set] at * <;> omega) (by omega) (by simp only [List.length_set] at * <;> omega) (by omega)
     | false =>
      have g28:=of_decide_eq_false h28
      exact ih (xf+1) (yI++[yP]) (zn xv) (zj xv) (by simp only [List.length_append,List.length_cons,List.length_nil] at * <;> omega) (by omega) (by simp only [List.length_append,List.length_cons,List.length_nil] at * <;> omega) (by omega)
    | false =>
     have g27:=of_decide_eq_false h27
     exact ih (xf+1) (yI++[yP]) (zn xv) (zj xv) (by omega) (by omega) (by omega) (by omega)
   | false =>
    exact ⟨hz4p1_va4p1_0,hg4p1_va4p1_0⟩
  | false =>
   exact ⟨hz4p1_va4p1_0,hg4p1_va4p1_0⟩
def ranges_gathered_4p1_l_o1 (xf:Nat) (yP:Sn):List Ora:=[.dec true,.op (some 14) ⟨.lref 1 xf 2 0,[],[],2⟩,.op (some 15) ⟨.agg [I yP.lo,I yP.hi],[],[1],2⟩,.pure (B (zv yP.lo))]
theorem lp_ranges_gathered_4p1 (xl:List Sn) (xg:List Sn):∀ (xq:List Sn) (xf:Nat) (xv:xg.drop xf=xq) (hi4p1:xf≤xg.length) (hq4p1:xg.length=xl.length) (hL4p1:xg.length≤1099511627776),(lim cfg).loop 69 lp69_4 ⟨65,[(4,.sl true [] 0 none),(10,.lsl 1 0 xl.length 2 none),(11,I ((xl.length:Nat):Int)),(12,I ((xf:Nat):Int))],[(1,⟨xg.map Sn.D,2,false⟩)],2,2⟩=some (zp xl xg (zD xq xf)):=by
 intro xq
 induction xq with
 | nil =>
  intro xf xv hi4p1 hq4p1 hL4p1
  unfold zD
  obtain rfl:xf=xg.length:=nil_eq xv hi4p1
  exact yc [.dec false] (Ai (lt_no' xv hq4p1) trivial) (by kernel_rfl)
 | cons yP xq ih =>
  intro xf xv hi4p1 hq4p1 hL4p1
  have hlt4p1:=zj xv
  unfold zD
  dsimp only
  have p1:=(idx_row (C:=cfg) (nxt:=2) (t:=22) (ty:=ty22) (te:=yl) (e:=25) (o:=1) (len:=xl.length) (sz:=2) (cap:=none) (i:=((xf:Nat):Int)) (by kernel_rfl) rfl (by kernel_rfl) rfl (by omega) (by omega))
  have p2:=(load_row (C:=cfg) (objs:=[(1,⟨xg.map Sn.D,2,false⟩)]) (nxt:=2) (t:=25) (ty:=yl) (o:=1) (n:=xf) (sz:=2) (sub:=0) (ob:=⟨xg.map Sn.D,2,false⟩) (e:=Sn.D yP) (d:=.agg [I yP.lo,I yP.hi]) (by kernel_rfl) (by kernel_rfl) rfl (row_at (f:=Sn.D) xv) (by kernel_rfl))
  cases h29:(zv yP.lo) with
  | true =>
   cases h30:(zv yP.hi) with
   | true =>
    exact zR (ks:=[4,10,11,12]) (st':=(sd66 xl xf xg yP)) ((ranges_gathered_4p1_l_o1 xf yP)++[.dec true,.pure (B (zv yP.hi)),.dec true,.dec false,.rw 60 (I ((xf+1:Nat):Int))]) (Ai (ya (i:=xf) (by have:=zj xv; omega)) (Ai (Eq.refl false) (Ai h30 (Ai (zk yP.hi) (Ai h29 (Ai (zk yP.lo) (Ai p2 (Ai p1 (Ai (lt_at' xv hq4p1) trivial))))))))) (by kernel_rfl) (by (simp only [sd66,go_sem,List.length_set,Nat.reduceAdd,Nat.reduceEqDiff,Nat.reduceLT,Nat.reduceLeDiff,bI2,zb.idsL,zb.renL,zb.snapAll,z6.idsL,z6.renL,z6.snapAll]) <;> rfl) (lp_ranges_gathered_4p1a xl xg _ (xf+1) [yP] (zn xv) (zj xv) (by simp only [List.length_append,List.length_cons,List.length_nil] at * <;> omega) (by omega) (by simp only [List.length_append,List.length_cons,List.length_nil] at * <;> omega) (by omega)) (by kernel_rfl)
   | false =>
    exact yc ((ranges_gathered_4p1_l_o1 xf yP)++[.dec true,.pure (B (zv yP.hi)),.dec false]) (Ai h30 (Ai (zk yP.hi) (Ai h29 (Ai (zk yP.lo) (Ai p2 (Ai p1 (Ai (lt_at' xv hq4p1) trivial))))))) (by kernel_rfl)
  | false =>
   exact yc ((ranges_gathered_4p1_l_o1 xf yP)++[.dec false]) (Ai h29 (Ai (zk yP.lo) (Ai p2 (Ai p1 (Ai (lt_at' xv hq4p1) trivial))))) (by kernel_rfl)
theorem zI (xl:List Sn) (xg:List Sn):∀ (xq:List Sn) (xf:Nat) (xv:xg.drop xf=xq) (hi4p1:xf≤xg.length) (hq4p1:xg.length=xl.length) (hL4p1:xg.length≤1099511627776),zt xl xg (zD xq xf):=by
 intro xq
 induction xq with
 | nil =>
  intro xf xv hi4p1 hq4p1 hL4p1
  unfold zD
  obtain rfl:xf=xg.length:=nil_eq xv hi4p1
  exact trivial
 | cons yP xq ih =>
  intro xf xv hi4p1 hq4p1 hL4p1
  have hlt4p1:=zj xv
  unfold zD
  dsimp only
  cases h29:(zv yP.lo) with
  | true =>
   cases h30:(zv yP.hi) with
   | true =>
    exact ivt_ranges_gathered_4p1a xl xg _ (xf+1) [yP] (zn xv) (zj xv) (by simp only [List.length_append,List.length_cons,List.length_nil] at * <;> omega) (by omega) (by simp only [List.length_append,List.length_cons,List.length_nil] at * <;> omega) (by omega)
   | false =>
    exact trivial
  | false =>
   exact trivial

end Go.VS

namespace Go.VS
open Go Go.Proofs
set_option maxHeartbeats 0
set_option linter.unusedSimpArgs false
set_option linter.unusedVariables false
def sd97 (yG:List Sn):St:=⟨65,[(4,.sl true [] 0 none),(10,.lsl 1 0 yG.length 2 none),(11,I ((yG.length:Nat):Int)),(12,I 0)],[(1,⟨(zo zm yG).map Sn.D,2,false⟩)],2,2⟩

def sd98 (yG:List Sn) (yI:List Sn):St:=⟨65,[(13,B false),(4,.lsl 2 0 yI.length 2 none),(10,.lsl 1 0 yG.length 2 none),(11,I ((yG.length:Nat):Int)),(12,I (((zo zm yG).length:Nat):Int))],[(1,⟨(zo zm yG).map Sn.D,2,false⟩),(2,⟨yI.map Sn.D,2,false⟩)],3,2⟩

def sd96 (yG:List Sn):St:=⟨65,[(12,I 0),(11,I ((yG.length:Nat):Int)),(10,.lsl 1 0 yG.length 2 none),(4,.sl true [] 0 none),(9,.tup []),(8,.lsl 1 0 yG.length 2 none),(3,I 0),(2,.sl true [] 0 none),(0,.lsl 1 0 yG.length 2 none)],[(1,⟨(zo zm yG).map Sn.D,2,false⟩)],2,2⟩

def sd99 (yG:List Sn) (yI:List Sn) (xf:Nat) (yP:Sn):St:=⟨65,[(3,I 2),(2,.sl true [] 0 none),(25,B true),(24,B true),(23,B false),(22,I yP.hi),(21,.lref 3 0 2 1),(20,B false),(19,B false),(18,B true),(17,I yP.lo),(16,.lref 3 0 2 0),(6,.lref 3 0 2 0),(15,.agg [I yP.lo,I yP.hi]),(14,.lref 1 xf 2 0),(13,B true),(4,.lsl 2 0 yI.length 2 none),(10,.lsl 1 0 yG.length 2 none),(11,I ((yG.length:Nat):Int)),(12,I ((xf:Nat):Int))],[(1,⟨(zo zm yG).map Sn.D,2,false⟩),(2,⟨yI.map Sn.D,2,false⟩),(3,⟨[.agg [I yP.lo,I yP.hi]],2,false⟩)],4,2⟩

def sd100 (yG:List Sn) (yI:List Sn) (xf:Nat) (yP:Sn):St:=⟨65,[(3,I 2),(2,.sl true [] 0 none),(25,B true),(24,.tup []),(23,.tup []),(22,.tup []),(21,.tup []),(20,B true),(19,B true),(18,B false),(17,I yP.lo),(16,.lref 3 0 2 0),(6,.lref 3 0 2 0),(15,.agg [I yP.lo,I yP.hi]),(14,.lref 1 xf 2 0),(13,B true),(4,.lsl 2 0 yI.length 2 none),(10,.lsl 1 0 yG.length 2 none),(11,I ((yG.length:Nat):Int)),(12,I ((xf:Nat):Int))],[(1,⟨(zo zm yG).map Sn.D,2,false⟩),(2,⟨yI.map Sn.D,2,false⟩),(3,⟨[.agg [I yP.lo,I yP.hi]],2,false⟩)],4,2⟩

def sd101 (yG:List Sn):St:=⟨65,[(13,B false),(4,.sl true [] 0 none),(10,.lsl 1 0 yG.length 2 none),(11,I ((yG.length:Nat):Int)),(12,I (((zo zm yG).length:Nat):Int))],[(1,⟨(zo zm yG).map Sn.D,2,false⟩)],2,2⟩

def sd102 (yG:List Sn) (xf:Nat) (yP:Sn):St:=⟨65,[(3,I 2),(2,.sl true [] 0 none),(25,B true),(24,B true),(23,B false),(22,I yP.hi),(21,.lref 2 0 2 1),(20,B false),(19,B false),(18,B true),(17,I yP.lo),(16,.lref 2 0 2 0),(6,.lref 2 0 2 0),(15,.agg [I yP.lo,I yP.hi]),(14,.lref 1 xf 2 0),(13,B true),(4,.sl true [] 0 none),(10,.lsl 1 0 yG.length 2 none),(11,I ((yG.length:Nat):Int)),(12,I ((xf:Nat):Int))],[(1,⟨(zo zm yG).map Sn.D,2,false⟩),(2,⟨[.agg [I yP.lo,I yP.hi]],2,false⟩)],3,2⟩

def sd103 (yG:List Sn) (xf:Nat) (yP:Sn):St:=⟨65,[(3,I 2),(2,.sl true [] 0 none),(25,B true),(24,.tup []),(23,.tup []),(22,.tup []),(21,.tup []),(20,B true),(19,B true),(18,B false),(17,I yP.lo),(16,.lref 2 0 2 0),(6,.lref 2 0 2 0),(15,.agg [I yP.lo,I yP.hi]),(14,.lref 1 xf 2 0),(13,B true),(4,.sl true [] 0 none),(10,.lsl 1 0 yG.length 2 none),(11,I ((yG.length:Nat):Int)),(12,I ((xf:Nat):Int))],[(1,⟨(zo zm yG).map Sn.D,2,false⟩),(2,⟨[.agg [I yP.lo,I yP.hi]],2,false⟩)],3,2⟩

end Go.VS

namespace Go.VS
open Go
set_option maxHeartbeats 0
theorem some_l (lo hi:Int):(zl lo hi).l=someS lo hi:=by
 unfold zl someS
 by_cases h:lo > hi
 ·rw [decide_eq_true h,if_pos h]; rfl
 ·rw [decide_eq_false h,if_neg h]; rfl
theorem emp_app {α:Type} {v l:List α} {β:Type} (f:List α→β):(bif l.isEmpty then f v else f (v++l))=f (v++l):=by
 cases l <;> simp
theorem out4a_len:∀ (l v:List Sn) (f:Int),∃ v' f',ranges_outside_4a l v f=.x0 v' f'∧v'.length≤v.length+l.length
 | [],v,f=>⟨v,f,rfl,Nat.le_refl _⟩
 | x::l,v,f=>by
  unfold ranges_outside_4a
  rw [emp_app (fun z=>ranges_outside_4a l z (w64 (x.hi+1)))]
  obtain ⟨v',f',e,h⟩:=out4a_len l (v++(zl f (w64 (x.lo - 1))).l) (w64 (x.hi+1))
  refine ⟨v',f',e,?_⟩
  have:=some1 f (w64 (x.lo - 1))
  simp only [List.length_append,List.length_cons] at h ⊢
  omega
theorem out4_len:∀ (l:List Sn) (f:Int),(∃ v' f',ranges_outside_4 l f=.x0 v' f'∧v'.length≤l.length) ∨ ∃ f',ranges_outside_4 l f=.x1 f'
 | [],f=>.inr ⟨f,rfl⟩
 | x::l,f=>by
  unfold ranges_outside_4
  cases he:((zl f (w64 (x.lo - 1))).l).isEmpty with
  | true =>
   rcases out4_len l (w64 (x.hi+1)) with ⟨v',f',e,h⟩ | ⟨f',e⟩
   ·exact .inl ⟨v',f',e,by simp only [List.length_cons]; omega⟩
   ·exact .inr ⟨f',e⟩
  | false =>
   obtain ⟨v',f',e,h⟩:=out4a_len l ((zl f (w64 (x.lo - 1))).l) (w64 (x.hi+1))
   have:=some1 f (w64 (x.lo - 1))
   exact .inl ⟨v',f',e,by simp only [List.length_cons]; omega⟩
theorem outsideLen (r:GS Sn) (h:r.l.length≤64):(ranges_outside r).l.length≤65:=by
 unfold ranges_outside
 rcases out4_len r.l (-1099511627776) with ⟨v',f',e,h'⟩ | ⟨f',e⟩ <;> rw [e] <;> dsimp only
 ·have:=some1 f' 1099511627776
  cases ((zl f' 1099511627776).l).isEmpty <;> simp [GS.some] <;> omega
 ·have:=some1 f' 1099511627776
  cases ((zl f' 1099511627776).l).isEmpty <;> simp [GS.some,GS.nil] <;> omega
theorem out4a_eq:∀ (l v:List Sn) (f:Int),bd l→∃ v' f',ranges_outside_4a l v f=.x0 v' f'∧v'++someS f' 1099511627776=v++outS f l
 | [],v,f,_=>⟨v,f,rfl,rfl⟩
 | x::l,v,f,h=>by
  have hx:=h x List.mem_cons_self
  unfold ranges_outside_4a
  rw [emp_app (fun z=>ranges_outside_4a l z (w64 (x.hi+1))),w64_eq (by omega) (by omega),w64_eq (by omega) (by omega),some_l]
  obtain ⟨v',f',e,k⟩:=out4a_eq l (v++someS f (x.lo - 1)) (x.hi+1) (fun t ht=>h t (List.mem_cons_of_mem _ ht))
  exact ⟨v',f',e,by rw [k,List.append_assoc]; rfl⟩
theorem out4_eq:∀ (l:List Sn) (f:Int),bd l→(∃ v' f',ranges_outside_4 l f=.x0 v' f'∧v'++someS f' 1099511627776=outS f l) ∨ ∃ f',ranges_outside_4 l f=.x1 f'∧someS f' 1099511627776=outS f l
 | [],f,_=>.inr ⟨f,rfl,rfl⟩
 | x::l,f,h=>by
  have hx:=h x List.mem_cons_self
  have h':=fun t ht=>h t (List.mem_cons_of_mem _ ht)
  unfold ranges_outside_4
  rw [w64_eq (by omega) (by omega),w64_eq (by omega) (by omega),some_l]
  cases he:(someS f (x.lo - 1)).isEmpty with
  | true =>
   have e0:someS f (x.lo - 1)=[]:=by simpa using he
   have e1:outS f (x::l)=outS (x.hi+1) l:=by
    show someS f (x.lo - 1)++outS (x.hi+1) l=_
    rw [e0]; rfl
   rw [e1]
   exact out4_eq l (x.hi+1) h'
  | false =>
   obtain ⟨v',f',e,k⟩:=out4a_eq l (someS f (x.lo - 1)) (x.hi+1) h'
   exact .inl ⟨v',f',e,k⟩
theorem outside_eq {r : GS Sn} (h : bd r.l) : (ranges_outside r).l = outS (-1099511627776) r.l := by
  unfold ranges_outside
  rcases out4_eq r.l (-1099511627776) h with ⟨v', f', e, k⟩ | ⟨f', e, k⟩ <;> rw [e] <;> dsimp only <;> rw [some_l, ← k]
  · cases he : (someS f' 1099511627776).isEmpty with
    | true => have e0 : someS f' 1099511627776 = [] := by simpa using he
              rw [e0]; simp [GS.some]
    | false => rfl
  · cases he : (someS f' 1099511627776).isEmpty with
    | true => have e0 : someS f' 1099511627776 = [] := by simpa using he
              rw [e0]; rfl
    | false => rfl
end Go.VS

namespace Go.VS
open Go Go.Proofs
set_option maxHeartbeats 0
set_option linter.unusedSimpArgs false
set_option linter.unusedVariables false
theorem outside_len (r:GS Sn) (h:r.l.length≤64):(ranges_outside r).l.length≤65:=outsideLen r h

end Go.VS

