/- The document's own functions: names, the table, digits, what is the same, what has a text. No conditions but bounds. -/
import Derived.Shelf.Small.Bits
import Derived.Shelf.Small.Wraps
import Derived.Shelf.Strconv.Itoa0
import Derived.Shelf.Strconv.Itoa1
import Derived.Shelf.LaysM
import Derived.Shelf.Strconv.Itoa2
import Derived.Shelf.Strconv.Itoa3
import Derived.Shelf.Sort.Plain
import Derived.Shelf.Unicode.Props
import Derived.Shelf.Unicode.PropsLaid
import Derived.Shelf.Bits.Mul64
import Derived.Shelf.Unicode.Is16White
import Derived.Shelf.Unicode.IsSpaceAny
import Derived.Shelf.Unicode.Is16WhiteD
import Derived.Shelf.Unicode.IsSpaceAnyD
import Derived.Shelf.Unicode.Is16Any
import Derived.Shelf.Unicode.Is32Any
import Derived.Shelf.Unicode.ExclAny
import Derived.Shelf.Unicode.PredsAny
import Derived.Shelf.Unicode.PredsPay
import Derived.Shelf.Slices.Turned
import Derived.Shelf.Slices.Reverse
import Derived.Shelf.Slices.Equal
import Derived.Ground.Names2Prog
import Derived.Shelf.Slices.Clone
import Derived.Shelf.Slices.SearchI
import Derived.Shelf.Slices.Cells
import Derived.Shelf.Slices.In.SortNone
import Derived.Shelf.Slices.Empties2
import Derived.Ground.SlgnProg
import Derived.Shelf.SlicesE.Reverse
import Derived.Shelf.SlicesE.Clone
import Derived.Test.YtbconpmnckokoaaGreatDoorChecked
import Derived.Test.YtbconpmnckokoaaGreatDoorZb
import Derived.Lib.ItoaLen
import Derived.Lib.Join
import Derived.Laws.BytesArg
set_option linter.unusedVariables false
set_option linter.unusedSimpArgs false
set_option linter.unusedSectionVars false
namespace Go.Proofs
open Go.Shelf
def Tryz.laysM284_ren:Go.Shelf.Ren:=⟨fun|284=>260|129=>174|317=>266|318=>267|n=>n,fun|53=>126|3=>3|212=>362|0=>0|4=>4|46=>203|5=>5|9=>9|n=>n,fun|17=>2|n=>n⟩
theorem Tryz.laysM284:Go.Proofs.LaysM.n284 prog Tryz.laysM284_ren:={
 mixed:=by kernel_rfl
 f129:=func174.trans (congrArg some (by kernel_rfl))
 f284:=func260.trans (congrArg some (by kernel_rfl))
 f317:=func266.trans (congrArg some (by kernel_rfl))
 f318:=func267.trans (congrArg some (by kernel_rfl))
 t0:=underlying0
 a0:=isAgg0
 z0:=sizeOf0
 v0:=zeroValue0
 t3:=underlying3
 a3:=isAgg3
 z3:=sizeOf3
 v3:=zeroValue3
 t4:=underlying4
 a4:=isAgg4
 z4:=sizeOf4
 v4:=zeroValue4
 t5:=underlying5
 a5:=isAgg5
 z5:=sizeOf5
 v5:=zeroValue5
 t9:=underlying9
 a9:=isAgg9
 z9:=sizeOf9
 v9:=zeroValue9
 t46:=underlying203
 a46:=isAgg203
 z46:=sizeOf203
 v46:=zeroValue203
 t53:=underlying126
 a53:=isAgg126
 z53:=sizeOf126
 v53:=zeroValue126
 t212:=underlying362
 a212:=isAgg362
 z212:=sizeOf362
 v212:=zeroValue362
 g17:=by kernel_rfl
 i0:=by kernel_rfl
 i3:=by kernel_rfl
 i4:=by kernel_rfl
 i5:=by kernel_rfl
 i9:=by kernel_rfl
 i46:=by kernel_rfl
 i53:=by kernel_rfl
 i212:=by kernel_rfl
 m17:=by kernel_rfl }
def Tryz.lays200_ren:Go.Shelf.Ren:=⟨fun|200=>82|261=>94|311=>117|312=>118|n=>n,fun|21=>21|4=>4|51=>167|5=>5|119=>168|0=>0|141=>170|196=>190|193=>187|3=>3|198=>192|49=>43|194=>188|201=>195|226=>225|46=>203|227=>226|n=>n,fun|7=>0|8=>1|n=>n⟩
theorem Tryz.lays200:Go.Proofs.Lays.n200 prog Tryz.lays200_ren:={
 mixed:=by kernel_rfl
 f200:=func82.trans (congrArg some (by kernel_rfl))
 f261:=func94.trans (congrArg some (by kernel_rfl))
 f311:=func117.trans (congrArg some (by kernel_rfl))
 f312:=func118.trans (congrArg some (by kernel_rfl))
 t0:=underlying0
 a0:=isAgg0
 z0:=sizeOf0
 v0:=zeroValue0
 t3:=underlying3
 a3:=isAgg3
 z3:=sizeOf3
 v3:=zeroValue3
 t4:=underlying4
 a4:=isAgg4
 z4:=sizeOf4
 v4:=zeroValue4
 t5:=underlying5
 a5:=isAgg5
 z5:=sizeOf5
 v5:=zeroValue5
 t21:=underlying21
 a21:=isAgg21
 z21:=sizeOf21
 v21:=zeroValue21
 t46:=underlying203
 a46:=isAgg203
 z46:=sizeOf203
 v46:=zeroValue203
 t49:=underlying43
 a49:=isAgg43
 z49:=sizeOf43
 v49:=zeroValue43
 t51:=underlying167
 a51:=isAgg167
 z51:=sizeOf167
 v51:=zeroValue167
 t119:=underlying168
 a119:=isAgg168
 z119:=sizeOf168
 t141:=underlying170
 a141:=isAgg170
 z141:=sizeOf170
 v141:=zeroValue170
 t193:=underlying187
 a193:=isAgg187
 z193:=sizeOf187
 v193:=zeroValue187
 t194:=underlying188
 a194:=isAgg188
 z194:=sizeOf188
 v194:=zeroValue188
 t196:=underlying190
 a196:=isAgg190
 z196:=sizeOf190
 v196:=zeroValue190
 t198:=underlying192
 a198:=isAgg192
 z198:=sizeOf192
 v198:=zeroValue192
 t201:=underlying195
 a201:=isAgg195
 z201:=sizeOf195
 v201:=zeroValue195
 t226:=underlying225
 a226:=isAgg225
 z226:=sizeOf225
 v226:=zeroValue225
 t227:=underlying226
 a227:=isAgg226
 z227:=sizeOf226
 v227:=zeroValue226
 g7:=by kernel_rfl
 g8:=by kernel_rfl }
open Go.RowKit Go.Lib in
theorem Tryz.unicode_IsLetter_all (r:Int) (w:World) (hlo:-2147483648≤r) (hhi:r≤2147483647) (htab:Lib.TabIs prog w "unicode.properties" .u8 Lib.propertiesTab) (hV:RVar 1 letterT w) :
  Calls prog 82 #[.int .i32 r] w fun e w'=>e=.returned (.bool (isLetterU r))∧Below w.heap.size w w':=Any.unicode_IsLetter_all Tryz.lays200 (by kernel_rfl) r w hlo hhi htab hV
end Go.Proofs
namespace Go.Proofs.YtbconpmnckokoaaGreatDoor
section
open Go.Proofs.Tryz
open Go.Proofs
theorem we:jX prog 35 1 [.int .i64 0,.int .i64 0]:=⟨_,_,_,jx,zeroValue35,j7,rfl⟩
set_option maxRecDepth 20000
variable {E:World}
def dY (f:ai) (x:aD):Bool:=decide ((bm x.op).1=⟨#[]⟩)||!decide (x.args.length=(bg x.op).length)||!x.args.all (bn f)
def ed (f:ai) (x:aD):Bool:=(cQ x.op&&!bn f x.dst)||(!cQ x.op&&!decide (x.dst=-1))
def bX (f:ai) (x:aD):Bool:=!dY f x&&!ed f x&&(decide (x.num=0)||kJ x.op)
def bh (f:ai) (t:fH):Bool:=if t.kind=0 then dk f t.to0&&decide (t.to1=0)&&decide (t.var=0) else if t.kind=1 then bn f t.var&&dk f t.to0&&dk f t.to1 else
 if t.kind=2 then bn f t.var&&decide (t.to0=0∧t.to1=0) else false
theorem kP (a b c d:Int) (w:World):(Op.equalIn 10000 35 (.agg [.int .i64 a,.int .i64 b].toArray) (.agg [.int .i64 c,.int .i64 d].toArray)).run prog w=.ok (decide (a=c∧b=d)) w:=Ce a b c d w 9998
theorem uS (f:ai) (x:aD) (hx:mv x.args):aV prog E 57 [.agg (bW f),.agg (bf x)] (.bool (bX f x)):=by
 have hl:=hx.lt
 refine zr func57 Z (by decide) Z<|ao<|yf (cs:=_) Z Z Z<|yf (cs:=_) Z Z Z<|ab Z<|z6<|ao<|aw jd Z Z7 Z Z<|aN Zh Z<|zh (kO _) Z<|z8 (Eo Z)<|z8 (BT Z Z)<|z8 (BU Z Z)<|ax Z<|ab Z<|z6<|zb<|zk<|zb<|zo (fun j=>false) (by kernel_rfl) Z (zq (.rest _))<|ad 0 Z (dV jd Z Z7 Z Z)<|ad 1 Z (d8 Zh Z)<|bl 2 Z<|zh (uP _) Z<|z6<|ad 3 Z (yx Z Z)<|ad 4 Z (yQ Z)<|bH.case (s:=18) Z (fun c1=>?_) (fun c1=>?_)
 ·refine er 5 Z Z Z c1<|er 6 Z Z Z c1<|er 7 Z Z Z c1<|er 8 Z Z Z c1<|er 9 Z Z Z c1<|er 10 Z Z Z c1<|er 11 Z Z Z c1<|er 12 Z Z Z c1<|ad 13 Z (yS Z c1 Z)<|ad 14 Z (yQ Z)<|er 15 Z Z Z Z<|er 16 Z Z Z Z<|er 17 Z Z Z Z<|er 18 Z Z Z Z<|er 19 Z Z Z Z<|ad 20 Z (yS Z Z Z)<|ad 21 Z (uQ Z)<|dU<|yq Z Z<|ao<|ab Z<|z6<|ze<|zi (x:=.bool _) Z ?_
  exact jb (by simp_all[bX,dY,ed,Int.ofNat_inj]<;>grind)
 ·refine gW 5 Z Z Z c1 (dV jd Z jn Z Z)<|gW 6 Z Z Z c1 (jH js Z)<|gW 7 Z Z Z c1 (Gv.lenM j6 Z)<|gW 8 Z Z Z c1 (dV jd Z Z7 Z Z)<|gW 9 Z Z Z c1 (d8 Zh Z)<|bl 10 Z<|z7 Z Z c1<|zh (kN _) Z<|z6<|gW 11 Z Z Z c1 (Gv.lenM underlying119 Z)<|gW 12 Z Z Z c1 (yl Z Z)<|ad 13 Z (yT Z c1 Z)<|ad 14 Z (yQ Z)<|bH.case (s:=28) Z (fun c2=>?_) (fun c2=>?_)
  ·refine er 15 Z Z Z c2<|er 16 Z Z Z c2<|er 17 Z Z Z c2<|er 18 Z Z Z c2<|er 19 Z Z Z c2<|ad 20 Z (yS Z c2 Z)<|ad 21 Z (uQ Z)<|dU<|yq Z Z<|ao<|ab Z<|z6<|ze<|zi (x:=.bool _) Z ?_
   exact jb (by simp_all[bX,dY,ed,Int.ofNat_inj]<;>grind)
  ·refine gW 15 Z Z Z c2 (yu jq jl Z Z)<|gW 16 Z Z Z c2 (dV jd Z jn Z Z)<|gW 17 Z Z Z c2 (jH js Z)<|bl 18 Z<|z7 Z Z c2<|zh (mu _ _ (by omega)) Z<|z6<|gW 19 Z Z Z c2 (Gv.not Z)<|ad 20 Z (yT Z c2 Z)<|ad 21 Z (uQ Z)<|dU<|zw Z (fun c3=>?_) (fun c3=>?_)
   ·refine ao<|ab Z<|z6<|ze<|zi (x:=.bool _) Z ?_
    exact jb (by simp_all[bX,dY,ed,Int.ofNat_inj]<;>grind)
   ·refine ao<|ah Z<|ah Z<|zm (s:=37) Z (fun c4=>?_) (fun c4=>?_)
    ·refine z7 Z Z c4<|ac jq jl Z Z<|z7 Z Z c4<|aw jd Z j7 Z Z<|z7 Z Z c4<|aN je Z<|z7 Z Z c4<|zh (fZ _ _) Z<|z7 Z Z c4<|aE Z<|ap Z c4 Z<|ah Z<|zm (s:=44) Z (fun c5=>?_) (fun c5=>?_)
     ·refine z2 Z Z c5<|z2 Z Z c5<|z2 Z Z c5<|zc Z Z<|zc Z Z<|zc Z Z<|z2 Z Z c5<|ap Z c5 Z<|ab Z<|z6<|yq Z Z<|ao<|ab Z<|z6<|ze<|zi (x:=.bool _) Z ?_
      exact jb (by simp_all[bX,dY,ed,Int.ofNat_inj]<;>grind)
     ·refine z7 Z Z c5<|ah Z<|z7 Z Z c5<|aE Z<|z7 Z Z c5<|ah Z<|zm (s:=47) Z (fun c6=>?_) (fun c6=>?_)
      ·refine z7 Z Z c6<|aw jd Z j7 Z Z<|z7 Z Z c6<|aN je Z<|z7 Z Z c6<|z8 (yl Z Z)<|z7 Z Z c5<|ap Z c6 Z<|aq Z c5 Z<|ab Z<|z6<|zw Z (fun c7=>?_) (fun c7=>?_)
       ·refine ao<|ab Z<|z6<|ze<|zi (x:=.bool _) Z ?_
        exact jb (by simp_all[bX,dY,ed,Int.ofNat_inj]<;>grind)
       ·refine zg<|ao<|aw jd Z Z0 Z Z<|aN Zz Z<|az Z Z<|ah Z<|zm (s:=56) Z (fun c8=>?_) (fun c8=>?_)
        ·refine z2 Z Z c8<|z2 Z Z c8<|z2 Z Z c8<|ap Z c8 Z<|ab Z<|z6<|ze<|zi (x:=.bool _) Z ?_
         exact jb (by simp_all[bX,dY,ed,Int.ofNat_inj]<;>grind)
        ·refine z7 Z Z c8<|aw jd Z Z7 Z Z<|z7 Z Z c8<|aN Zh Z<|z7 Z Z c8<|zh (dT _) Z<|aq Z c8 Z<|ab Z<|z6<|ze<|zi (x:=.bool _) Z ?_
         exact jb (by simp_all[bX,dY,ed,Int.ofNat_inj]<;>grind)
      ·refine z2 Z Z c6<|z2 Z Z c6<|z2 Z Z c6<|z7 Z Z c5<|aq Z c6 Z<|aq Z c5 Z<|ab Z<|z6<|yv Z Z<|zg<|ao<|aw jd Z Z0 Z Z<|aN Zz Z<|az Z Z<|ah Z<|zm (s:=56) Z (fun c9=>?_) (fun c9=>?_)
       ·refine z2 Z Z c9<|z2 Z Z c9<|z2 Z Z c9<|ap Z c9 Z<|ab Z<|z6<|ze<|zi (x:=.bool _) Z ?_
        exact jb (by simp_all[bX,dY,ed,Int.ofNat_inj]<;>grind)
       ·refine z7 Z Z c9<|aw jd Z Z7 Z Z<|z7 Z Z c9<|aN Zh Z<|z7 Z Z c9<|zh (dT _) Z<|aq Z c9 Z<|ab Z<|z6<|ze<|zi (x:=.bool _) Z ?_
        exact jb (by simp_all[bX,dY,ed,Int.ofNat_inj]<;>grind)
    ·refine z2 Z Z c4<|z2 Z Z c4<|z2 Z Z c4<|z2 Z Z c4<|z2 Z Z c4<|aq Z c4 Z<|ah Z<|z7 Z Z Z<|ah Z<|z7 Z Z Z<|aE Z<|z7 Z Z Z<|ah Z<|zm (s:=47) Z (fun c10=>?_) (fun c10=>?_)
     ·refine z7 Z Z c10<|aw jd Z j7 Z Z<|z7 Z Z c10<|aN je Z<|z7 Z Z c10<|z8 (yl Z Z)<|z7 Z Z Z<|ap Z c10 Z<|aq Z Z Z<|ab Z<|z6<|zw Z (fun c11=>?_) (fun c11=>?_)
      ·refine ao<|ab Z<|z6<|ze<|zi (x:=.bool _) Z ?_
       exact jb (by simp_all[bX,dY,ed,Int.ofNat_inj]<;>grind)
      ·refine zg<|ao<|aw jd Z Z0 Z Z<|aN Zz Z<|az Z Z<|ah Z<|zm (s:=56) Z (fun c12=>?_) (fun c12=>?_)
       ·refine z2 Z Z c12<|z2 Z Z c12<|z2 Z Z c12<|ap Z c12 Z<|ab Z<|z6<|ze<|zi (x:=.bool _) Z ?_
        exact jb (by simp_all[bX,dY,ed,Int.ofNat_inj]<;>grind)
       ·refine z7 Z Z c12<|aw jd Z Z7 Z Z<|z7 Z Z c12<|aN Zh Z<|z7 Z Z c12<|zh (dT _) Z<|aq Z c12 Z<|ab Z<|z6<|ze<|zi (x:=.bool _) Z ?_
        exact jb (by simp_all[bX,dY,ed,Int.ofNat_inj]<;>grind)
     ·refine z2 Z Z c10<|z2 Z Z c10<|z2 Z Z c10<|z7 Z Z Z<|aq Z c10 Z<|aq Z Z Z<|ab Z<|z6<|yv Z Z<|zg<|ao<|aw jd Z Z0 Z Z<|aN Zz Z<|az Z Z<|ah Z<|zm (s:=56) Z (fun c13=>?_) (fun c13=>?_)
      ·refine z2 Z Z c13<|z2 Z Z c13<|z2 Z Z c13<|ap Z c13 Z<|ab Z<|z6<|ze<|zi (x:=.bool _) Z ?_
       exact jb (by simp_all[bX,dY,ed,Int.ofNat_inj]<;>grind)
      ·refine z7 Z Z c13<|aw jd Z Z7 Z Z<|z7 Z Z c13<|aN Zh Z<|z7 Z Z c13<|zh (dT _) Z<|aq Z c13 Z<|ab Z<|z6<|ze<|zi (x:=.bool _) Z ?_
       exact jb (by simp_all[bX,dY,ed,Int.ofNat_inj]<;>grind)
theorem uT (f:ai) (t:fH):aV prog E 58 [.agg (bW f),.agg (mW t)] (.bool (bh f t)):=by
 refine zr func58 Z (by decide) Z<|ao<|yf (cs:=_) Z Z Z<|yf (cs:=_) Z Z Z<|ab Z<|z6<|zb<|ao<|aw ji Z Y3 Z Z<|aN Y9 Z<|z6<|zk<|ao<|az Z Z<|ab Z<|z6<|zw Z (fun c14=>?_) (fun c14=>?_)
 ·refine ao<|ac jq jl Z Z<|aw ji Z Z4 Z Z<|z8 (yz (j:=0) jx j7 Z Z Z (by decide) Z)<|aN je Z<|zh (j5 _ _) Z<|ah Z<|zm (s:=14) Z (fun c15=>?_) (fun c15=>?_)
  ·refine z7 Z Z c15<|aw ji Z Z4 Z Z<|z7 Z Z c15<|z8 (yz (j:=1) jx j7 Z Z Z (by decide) Z)<|z7 Z Z c15<|aN je Z<|z7 Z Z c15<|az Z Z<|ap Z c15 Z<|ah Z<|zm (s:=20) Z (fun c16=>?_) (fun c16=>?_)
   ·refine z7 Z Z c16<|aw ji Z j7 Z Z<|z7 Z Z c16<|aN je Z<|z7 Z Z c16<|az Z Z<|ap Z c16 Z<|ab Z<|z6<|ze<|zi (x:=.bool _) Z ?_
    exact jb (by simp_all[bh]<;>grind)
   ·refine z2 Z Z c16<|z2 Z Z c16<|z2 Z Z c16<|aq Z c16 Z<|ab Z<|z6<|ze<|zi (x:=.bool _) Z ?_
    exact jb (by simp_all[bh]<;>grind)
  ·refine z2 Z Z c15<|z2 Z Z c15<|z2 Z Z c15<|z2 Z Z c15<|aq Z c15 Z<|ah Z<|z2 Z Z Z<|z2 Z Z Z<|z2 Z Z Z<|aq Z Z Z<|ab Z<|z6<|ze<|zi (x:=.bool _) Z ?_
   exact jb (by simp_all[bh]<;>grind)
 ·refine ao<|az Z Z<|ab Z<|z6<|zw Z (fun c17=>?_) (fun c17=>?_)
  ·refine ao<|ac jq jl Z Z<|aw ji Z j7 Z Z<|aN je Z<|zh (fZ _ _) Z<|ah Z<|zm (s:=31) Z (fun c18=>?_) (fun c18=>?_)
   ·refine z7 Z Z c18<|ac jq jl Z Z<|z7 Z Z c18<|aw ji Z Z4 Z Z<|z7 Z Z c18<|z8 (yz (j:=0) jx j7 Z Z Z (by decide) Z)<|z7 Z Z c18<|aN je Z<|z7 Z Z c18<|zh (j5 _ _) Z<|ap Z c18 Z<|ah Z<|zm (s:=38) Z (fun c19=>?_) (fun c19=>?_)
    ·refine z7 Z Z c19<|ac jq jl Z Z<|z7 Z Z c19<|aw ji Z Z4 Z Z<|z7 Z Z c19<|z8 (yz (j:=1) jx j7 Z Z Z (by decide) Z)<|z7 Z Z c19<|aN je Z<|z7 Z Z c19<|zh (j5 _ _) Z<|ap Z c19 Z<|ab Z<|z6<|ze<|zi (x:=.bool _) Z ?_
     exact jb (by simp_all[bh]<;>grind)
    ·refine z2 Z Z c19<|z2 Z Z c19<|z2 Z Z c19<|z2 Z Z c19<|z2 Z Z c19<|aq Z c19 Z<|ab Z<|z6<|ze<|zi (x:=.bool _) Z ?_
     exact jb (by simp_all[bh]<;>grind)
   ·refine z2 Z Z c18<|z2 Z Z c18<|z2 Z Z c18<|z2 Z Z c18<|z2 Z Z c18<|aq Z c18 Z<|ah Z<|z2 Z Z Z<|z2 Z Z Z<|z2 Z Z Z<|z2 Z Z Z<|z2 Z Z Z<|aq Z Z Z<|ab Z<|z6<|ze<|zi (x:=.bool _) Z ?_
    exact jb (by simp_all[bh]<;>grind)
  ·refine ao<|az Z Z<|ab Z<|z6<|zw Z (fun c20=>?_) (fun c20=>?_)
   ·refine ao<|ac jq jl Z Z<|aw ji Z j7 Z Z<|aN je Z<|zh (fZ _ _) Z<|ah Z<|zm (s:=51) Z (fun c21=>?_) (fun c21=>?_)
    ·refine z7 Z Z c21<|aw ji Z Z4 Z Z<|z7 Z Z c21<|ac isAgg35 Z4 Z Z<|z7 Z Z c21<|z8 (Gv.buildA (cps:=[]) (rs:=[.int .i64 0,.int .i64 0]) we Z Z Z)<|z7 Z Z c21<|z8 (Gv.eqlP (xs:=[.int _ _,.int _ _]) (ys:=[.int _ _,.int _ _]) (by kernel_rfl) Z Z (fun w=>kP _ _ _ _ w))<|ap Z c21 Z<|ab Z<|z6<|ze<|zi (x:=.bool _) Z ?_
     exact jb (by simp_all[bh]<;>grind)
    ·refine z2 Z Z c21<|z2 Z Z c21<|z2 Z Z c21<|z2 Z Z c21<|aq Z c21 Z<|ab Z<|z6<|ze<|zi (x:=.bool _) Z ?_
     exact jb (by simp_all[bh]<;>grind)
   ·refine zg<|ao<|ab Z<|z6<|ze<|zi (x:=.bool _) Z ?_
    exact jb (by simp_all[bh]<;>grind)
def l4 (s:ByteArray):List AV:=[.str s]
end
section
open Go.Proofs.Tryz
section
variable {E:World} {P:Program} {env:aH} {O:OL} {d ty:Nat} {pos:String} {af:Array Edge} {x y:Operand} {t u e:TypeId}
theorem Gv.rem {k:IntKind} {a b:Int} (hx:aU env x=.int k a) (hy:aU env y=.int k b) (hb:b≠0):Gv P env O (Oper.mk (some d) (.binOp .rem t x y u) ty pos af none) (.int k (a.tmod b)):=Gv.ofEv fun I ρ h=>⟨_,rfl,fun w=>by
 rw[bt (e7 h hx) (e7 h hy) (by decide) (by decide)];simp[binOp,Op.intDiv,hb]⟩
theorem Gv.quo {k:IntKind} {a b:Int} (hx:aU env x=.int k a) (hy:aU env y=.int k b) (hb:b≠0):Gv P env O (Oper.mk (some d) (.binOp .quo t x y u) ty pos af none) (.int k (k.wrap (a.tdiv b))):=Gv.ofEv fun I ρ h=>⟨_,rfl,fun w=>by
 rw[bt (e7 h hx) (e7 h hy) (by decide) (by decide)];simp[binOp,Op.intDiv,hb]⟩
theorem Gv.neg {k:IntKind} {a:Int} (hx:aU env x=.int k a):Gv P env O (Oper.mk (some d) (.unOp .neg t x) ty pos af none) (.int k (k.wrap (0 - a))):=Gv.ofEv fun I ρ h=>⟨_,rfl,fun w=>by
 simp[execOp,e7 h hx,Op.unary,Op.intArith]⟩
theorem Gv.conv {k k':IntKind} {a:Int} {ds:TypeDesc} {src dst:TypeId} (hs:P.underlying src=some ds) (hd:P.underlying dst=some (.int k')) (hx:aU env x=.int k a):Gv P env O (Oper.mk (some d) (.convert src dst x) ty pos af none) (.int k' (k'.wrap a)):=Gv.ofEv fun I ρ h=>⟨_,rfl,fun w=>by
 simp only[execOp,e7 h hx]
 cases ds<;>simp[convert,run_underlying hs,run_underlying hd,Conv.intToInt]⟩
end
end
section
open Go.Proofs.Tryz
section
variable {E:World} {P:Program} {n:Nat} {l:List Oper} {W:Nat→Bool} {Q:aH→OL→Prop} {fuel:Nat} {listed:Array Bool} {env:aH} {O Os Om:OL}
theorem bH.two {i j:Nat} {o o':Oper} (hi:l[i]?=some o) (hj:l[j]?=some o') (hr:Region.ready .any l.toArray listed=[i,j])
  (h:ak P E l.toArray (fun env' Om'=>bH P E l W Q fuel (listed.setIfInBounds i true) env' Os Om') [o] env Om)
  (h':ak P E l.toArray (fun env' Om'=>bH P E l W Q fuel (listed.setIfInBounds j true) env' Os Om') [o'] env Om):bH P E l W Q (fuel+1) listed env Os Om:=fun I F ρ w Ls h1 hLs h2=>by
 have key:∀k ok,ak P E l.toArray (fun env' Om'=>bH P E l W Q fuel (listed.setIfInBounds k true) env' Os Om') [ok] env Om →
   bx P l.toArray (fun ρ' w'=>(cL I.k [] E w'∧(dg W (listed.setIfInBounds k true)∨cL I.k Ls E w'))∧bw P l.toArray (cL I.k [] E) (cL I.k Ls E) W (fW I F E Q) fuel (listed.setIfInBounds k true) ρ' w') [ok] ρ w:=fun k ok h=>
  q4 (fun ρ' w' ⟨J,env',Om',a,b,c,d⟩=>by
   have hst:cL I.k Ls E w':=by
    obtain ⟨J',L',h3,h4,h5⟩:=c.here
    exact ⟨J',L',a.k.trans h3,h4,h5⟩
   refine ⟨⟨hst.less,.inr hst⟩,bw.mono ?_ ?_ (fun _ _=>q9 a) _ _ _ _ (d J F ρ' w' Ls b (hLs.mono a) c)⟩
   ·rintro w ⟨J',L',h3,h4⟩;exact ⟨J',L',a.k.trans h3,h4⟩
   ·rintro w ⟨J',L',h3,h4⟩;exact ⟨J',L',a.k.trans h3,h4⟩) _ _ _ (h I (Ls++F) ρ w h1 h2)
 refine ⟨fun h0=>(by rw[hr] at h0;cases h0),fun k hk o2 ho2=>?_⟩
 rw[hr] at hk
 simp only[List.mem_cons,List.not_mem_nil,or_false] at hk
 rw[List.getElem?_toArray] at ho2
 rcases hk with rfl|rfl
 ·rw[hi] at ho2;cases ho2;exact key _ _ h
 ·rw[hj] at ho2;cases ho2;exact key _ _ h'
end
end
section
open Go.Proofs.Tryz
section
variable {E:World} {P:Program} {n:Nat} {l:List Oper} {W:Nat→Bool} {Q:aH→OL→Prop} {fuel:Nat} {listed:Array Bool} {env:aH} {O Os Om:OL}
theorem bH.three {i j m:Nat} {o o' o'':Oper} (hi:l[i]?=some o) (hj:l[j]?=some o') (hm:l[m]?=some o'') (hr:Region.ready .any l.toArray listed=[i,j,m])
  (h:ak P E l.toArray (fun env' Om'=>bH P E l W Q fuel (listed.setIfInBounds i true) env' Os Om') [o] env Om)
  (h':ak P E l.toArray (fun env' Om'=>bH P E l W Q fuel (listed.setIfInBounds j true) env' Os Om') [o'] env Om)
  (h'':ak P E l.toArray (fun env' Om'=>bH P E l W Q fuel (listed.setIfInBounds m true) env' Os Om') [o''] env Om):bH P E l W Q (fuel+1) listed env Os Om:=fun I F ρ w Ls h1 hLs h2=>by
 have key:∀k ok,ak P E l.toArray (fun env' Om'=>bH P E l W Q fuel (listed.setIfInBounds k true) env' Os Om') [ok] env Om →
   bx P l.toArray (fun ρ' w'=>(cL I.k [] E w'∧(dg W (listed.setIfInBounds k true)∨cL I.k Ls E w'))∧bw P l.toArray (cL I.k [] E) (cL I.k Ls E) W (fW I F E Q) fuel (listed.setIfInBounds k true) ρ' w') [ok] ρ w:=fun k ok h=>
  q4 (fun ρ' w' ⟨J,env',Om',a,b,c,d⟩=>by
   have hst:cL I.k Ls E w':=by
    obtain ⟨J',L',h3,h4,h5⟩:=c.here
    exact ⟨J',L',a.k.trans h3,h4,h5⟩
   refine ⟨⟨hst.less,.inr hst⟩,bw.mono ?_ ?_ (fun _ _=>q9 a) _ _ _ _ (d J F ρ' w' Ls b (hLs.mono a) c)⟩
   ·rintro w ⟨J',L',h3,h4⟩;exact ⟨J',L',a.k.trans h3,h4⟩
   ·rintro w ⟨J',L',h3,h4⟩;exact ⟨J',L',a.k.trans h3,h4⟩) _ _ _ (h I (Ls++F) ρ w h1 h2)
 refine ⟨fun h0=>(by rw[hr] at h0;cases h0),fun k hk o2 ho2=>?_⟩
 rw[hr] at hk
 simp only[List.mem_cons,List.not_mem_nil,or_false] at hk
 rw[List.getElem?_toArray] at ho2
 rcases hk with rfl|rfl|rfl
 ·rw[hi] at ho2;cases ho2;exact key _ _ h
 ·rw[hj] at ho2;cases ho2;exact key _ _ h'
 ·rw[hm] at ho2;cases ho2;exact key _ _ h''
end
theorem bC.know {E:World} {P:Program} {f:FuncId} {as0:List AV} {O:OL} {R R':AV→OL→Prop} (h:bC P E f as0 O R) (hr:∀I F w v x O',R x O'→bO I x v→eQ I O' F E w→∃J y O'',I.le J∧bO J y v∧eQ J O'' F E w∧R' y O''):bC P E f as0 O R':=fun I F w vs h1 h2=>
 (h I F w vs h1 h2).mono fun v w' ⟨J,x,O',a,b,c,d⟩=>by
  obtain ⟨K,y,O'',e1,e2,e3,e4⟩:=hr J F w' v x O' d b c
  exact ⟨K,y,O'',a.trans e1,e2,e3,e4⟩
end
section
open Go.Proofs.Tryz
open Go.Proofs Go.Lib Go.Shelf Go.RowKit
theorem dN:gF prog 97 #[(0,1),(1,1),(2,1)] [.str ⟨#[]⟩,.str ⟨#[]⟩,.str ⟨#[]⟩]:=⟨_,_,Zj,zeroValue97,fun w=>by kernel_rfl,rfl⟩
theorem yU:dc prog 98 97 27 3 [.str ⟨#[]⟩,.str ⟨#[]⟩,.str ⟨#[]⟩,.str ⟨#[]⟩,.str ⟨#[]⟩,.str ⟨#[]⟩,.str ⟨#[]⟩,.str ⟨#[]⟩,.str ⟨#[]⟩,.str ⟨#[]⟩,.str ⟨#[]⟩,.str ⟨#[]⟩,.str ⟨#[]⟩,.str ⟨#[]⟩,.str ⟨#[]⟩,.str ⟨#[]⟩,.str ⟨#[]⟩,.str ⟨#[]⟩,.str ⟨#[]⟩,.str ⟨#[]⟩,.str ⟨#[]⟩,.str ⟨#[]⟩,.str ⟨#[]⟩,.str ⟨#[]⟩,.str ⟨#[]⟩,.str ⟨#[]⟩,.str ⟨#[]⟩,.str ⟨#[]⟩,.str ⟨#[]⟩,.str ⟨#[]⟩,.str ⟨#[]⟩,.str ⟨#[]⟩,.str ⟨#[]⟩,.str ⟨#[]⟩,.str ⟨#[]⟩,.str ⟨#[]⟩,.str ⟨#[]⟩,.str ⟨#[]⟩,.str ⟨#[]⟩,.str ⟨#[]⟩,.str ⟨#[]⟩,.str ⟨#[]⟩,.str ⟨#[]⟩,.str ⟨#[]⟩,.str ⟨#[]⟩,.str ⟨#[]⟩,.str ⟨#[]⟩,.str ⟨#[]⟩,.str ⟨#[]⟩,.str ⟨#[]⟩,.str ⟨#[]⟩,.str ⟨#[]⟩,.str ⟨#[]⟩,.str ⟨#[]⟩,.str ⟨#[]⟩,.str ⟨#[]⟩,.str ⟨#[]⟩,.str ⟨#[]⟩,.str ⟨#[]⟩,.str ⟨#[]⟩,.str ⟨#[]⟩,.str ⟨#[]⟩,.str ⟨#[]⟩,.str ⟨#[]⟩,.str ⟨#[]⟩,.str ⟨#[]⟩,.str ⟨#[]⟩,.str ⟨#[]⟩,.str ⟨#[]⟩,.str ⟨#[]⟩,.str ⟨#[]⟩,.str ⟨#[]⟩,.str ⟨#[]⟩,.str ⟨#[]⟩,.str ⟨#[]⟩,.str ⟨#[]⟩,.str ⟨#[]⟩,.str ⟨#[]⟩,.str ⟨#[]⟩,.str ⟨#[]⟩,.str ⟨#[]⟩]:=⟨_,Ya,Zw,zeroValue97,by decide,by decide,by kernel_rfl⟩
set_option maxRecDepth 20000
variable {E:World}
def ae (E:World):Prop:=Lib.TabIs prog E "unicode.properties" .u8 Lib.propertiesTab∧RVar 1 letterT E
theorem f6 (c:Int) (h1:-2147483648≤c) (h2:c≤2147483647) (hL:ae E):aV prog E 82 [.int .i32 c] (.bool (isLetterU c)):=
 aV.ofBelow (vs:=[.int .i32 c]) (r:=.bool (isLetterU c)) func82 rfl (by decide) rfl fun w hw=>Tryz.unicode_IsLetter_all c w h1 h2 (TabIs_below (g:=0) (by kernel_rfl) hL.1 hw) (RVar_below hL.2 hw)
theorem cO (s:ByteArray) (p:Nat):1≤(Utf8.decode s p).2∧(Utf8.decode s p).1≤2097151:=by
 have h256:∀k,(s.get! k).toNat<256:=fun k=>(s.get! k).toNat_lt
 unfold Utf8.decode
 dsimp only
 constructor
 ·repeat' split
  all_goals simp
 ·have h0:=h256 (p+0)
  have h1:=h256 (p+1)
  have h2:=h256 (p+2)
  have h3:=h256 (p+3)
  repeat' split
  all_goals (simp only[Utf8.runeError];omega)
def bY (c:Int) (n:Nat):Bool:=(isLetterU c&&!decide (c=65533))||(!decide ((n:Int)=0)&&((decide (48≤c)&&decide (c≤57))||decide (c=46)||decide (c=95)))
def cW (s:ByteArray) (p n:Nat):Bool:=
 if h:p<s.size then (if bY (Utf8.decode s p).1 n then cW s (p+(Utf8.decode s p).2) (n+1) else false) else decide ((1:Int)≤n)&&decide ((n:Int)≤16)
termination_by s.size - p
decreasing_by have:=(cO s p).1;omega
def gX (s:ByteArray):Bool:=cW s 0 0
theorem mw (s:ByteArray) (hs:s.size≤140737488355328) (hL:ae E):aV prog E 65 [.str s] (.bool (gX s)):=by
 refine zr func65 Z (by decide) Z<|ao<|ab Z<|z6<|ao<|ax Z<|z6<|zb<|ao<|z8 (yh (v:=.str _) Z)<|ak.rangeT Zd Z<|fun i8=>z6<|zk<|yd (γ:=Nat × Nat) [8] (fun g=>[(3,.int .i64 g.2)]) (fun g=>[(i8,.iter s g.1)]) (fun g=>cW s g.1 g.2=gX s∧g.2≤g.1∧g.2≤s.size) (fun g=>s.size - g.1) (0,0) aY aS (⟨Z,Nat.le_refl _,qr _⟩) ?_
 rintro ⟨p,n⟩ ⟨hp,hn,hn2⟩
 try dsimp only at *
 by_cases hlt:p<s.size
 ·obtain ⟨hd1,hd2⟩:=cO s p
  have hstep:=hp
  rw[cW,dif_pos hlt] at hstep
  refine ao<|ak.nextT Z .head hlt<|z8 (BU Z Z)<|z6<|zb<|yq Z Z<|zg<|zk<|ao<|z8 (BT Z Z)<|ax Z<|z6<|ao<|aa Z<|zh (f6 _ (by omega) (by omega) hL) Z<|ah Z<|zm (s:=14) Z (fun c1=>?_) (fun c1=>?_)
  ·refine z7 Z Z c1<|aa Z<|z7 Z Z c1<|z8 (yl Z Z)<|ap Z c1 Z<|ab Z<|z6<|zb<|ao<|ah Z<|aE Z<|ah Z<|zm (s:=20) Z (fun c2=>?_) (fun c2=>?_)
   ·refine z7 Z Z c2<|aa Z<|z7 Z Z c2<|az Z Z<|z7 Z Z c2<|ah Z<|zm (s:=23) Z (fun c3=>?_) (fun c3=>?_)
    ·refine z2 Z Z c3<|z2 Z Z c3<|z2 Z Z c3<|zc Z Z<|zc Z Z<|z2 Z Z c3<|z2 Z Z c3<|z2 Z Z c3<|zc Z Z<|zc Z Z<|z2 Z Z c3<|z2 Z Z c3<|zc Z Z<|zc Z Z<|z2 Z Z c3<|z7 Z Z c2<|ap Z c3 Z<|ap Z c2 Z<|z6<|yq Z Z<|ao<|ab Z<|z6<|ze<|zi (x:=.bool _) Z ?_
     rw[if_neg (by simp_all[bY]<;>omega)] at hstep;exact jb hstep
    ·refine z7 Z Z c3<|aa Z<|z7 Z Z c3<|z8 (qg Z Z)<|z7 Z Z c3<|ah Z<|zm (s:=26) Z (fun c4=>?_) (fun c4=>?_)
     ·refine z7 Z Z c4<|aa Z<|z7 Z Z c4<|z8 (Gv.leq Z Z)<|z7 Z Z c3<|ap Z c4 Z<|z7 Z Z c3<|aE Z<|z7 Z Z c3<|ah Z<|zm (s:=31) Z (fun c5=>?_) (fun c5=>?_)
      ·refine z7 Z Z c5<|aa Z<|z7 Z Z c5<|z8 (yl Z Z)<|z7 Z Z c3<|ap Z c5 Z<|z7 Z Z c3<|ah Z<|zm (s:=35) Z (fun c6=>?_) (fun c6=>?_)
       ·refine z7 Z Z c6<|aa Z<|z7 Z Z c6<|z8 (yl Z Z)<|z7 Z Z c3<|ap Z c6 Z<|z7 Z Z c2<|aq Z c3 Z<|ap Z c2 Z<|z6<|zw Z (fun c7=>?_) (fun c7=>?_)
        ·refine ao<|ab Z<|z6<|ze<|zi (x:=.bool _) Z ?_
         rw[if_neg (by simp_all[bY]<;>omega)] at hstep;exact jb hstep
        ·refine zg<|bj<|aa Z<|aF Z Z<|ax Z<|z6 ?_
         exact ⟨(p+(Utf8.decode s p).2,n+1),aY,aY,aS,⟨by rw[if_pos (by simp_all[bY]<;>omega)] at hstep;exact hstep,by dsimp only;omega,by dsimp only;omega⟩,by dsimp only;omega⟩
       ·refine z2 Z Z c6<|z2 Z Z c6<|z7 Z Z c3<|aq Z c6 Z<|z7 Z Z c2<|aq Z c3 Z<|ap Z c2 Z<|z6<|yv Z Z<|zg<|bj<|aa Z<|aF Z Z<|ax Z<|z6 ?_
        exact ⟨(p+(Utf8.decode s p).2,n+1),aY,aY,aS,⟨by rw[if_pos (by simp_all[bY]<;>omega)] at hstep;exact hstep,by dsimp only;omega,by dsimp only;omega⟩,by dsimp only;omega⟩
      ·refine z2 Z Z c5<|z2 Z Z c5<|z7 Z Z c3<|aq Z c5 Z<|z7 Z Z c3<|ah Z<|z2 Z Z Z<|z2 Z Z Z<|z7 Z Z c3<|aq Z Z Z<|z7 Z Z c2<|aq Z c3 Z<|ap Z c2 Z<|z6<|yv Z Z<|zg<|bj<|aa Z<|aF Z Z<|ax Z<|z6 ?_
       exact ⟨(p+(Utf8.decode s p).2,n+1),aY,aY,aS,⟨by rw[if_pos (by simp_all[bY]<;>omega)] at hstep;exact hstep,by dsimp only;omega,by dsimp only;omega⟩,by dsimp only;omega⟩
     ·refine z2 Z Z c4<|z2 Z Z c4<|z7 Z Z c3<|aq Z c4 Z<|z7 Z Z c3<|aE Z<|z7 Z Z c3<|ah Z<|z7 Z Z Z<|aa Z<|z7 Z Z Z<|z8 (yl Z Z)<|z7 Z Z c3<|ap Z Z Z<|z7 Z Z c3<|ah Z<|zm (s:=35) Z (fun c8=>?_) (fun c8=>?_)
      ·refine z7 Z Z c8<|aa Z<|z7 Z Z c8<|z8 (yl Z Z)<|z7 Z Z c3<|ap Z c8 Z<|z7 Z Z c2<|aq Z c3 Z<|ap Z c2 Z<|z6<|zw Z (fun c9=>?_) (fun c9=>?_)
       ·refine ao<|ab Z<|z6<|ze<|zi (x:=.bool _) Z ?_
        rw[if_neg (by simp_all[bY]<;>omega)] at hstep;exact jb hstep
       ·refine zg<|bj<|aa Z<|aF Z Z<|ax Z<|z6 ?_
        exact ⟨(p+(Utf8.decode s p).2,n+1),aY,aY,aS,⟨by rw[if_pos (by simp_all[bY]<;>omega)] at hstep;exact hstep,by dsimp only;omega,by dsimp only;omega⟩,by dsimp only;omega⟩
      ·refine z2 Z Z c8<|z2 Z Z c8<|z7 Z Z c3<|aq Z c8 Z<|z7 Z Z c2<|aq Z c3 Z<|ap Z c2 Z<|z6<|yv Z Z<|zg<|bj<|aa Z<|aF Z Z<|ax Z<|z6 ?_
       exact ⟨(p+(Utf8.decode s p).2,n+1),aY,aY,aS,⟨by rw[if_pos (by simp_all[bY]<;>omega)] at hstep;exact hstep,by dsimp only;omega,by dsimp only;omega⟩,by dsimp only;omega⟩
   ·refine z2 Z Z c2<|z2 Z Z c2<|z2 Z Z c2<|zc Z Z<|zc Z Z<|zc Z Z<|zc Z Z<|zc Z Z<|zc Z Z<|zc Z Z<|zc Z Z<|zc Z Z<|zc Z Z<|zc Z Z<|zc Z Z<|zc Z Z<|zc Z Z<|zc Z Z<|z2 Z Z c2<|aq Z c2 Z<|z6<|yv Z Z<|zg<|bj<|aa Z<|aF Z Z<|ax Z<|z6 ?_
    exact ⟨(p+(Utf8.decode s p).2,n+1),aY,aY,aS,⟨by rw[if_pos (by simp_all[bY]<;>omega)] at hstep;exact hstep,by dsimp only;omega,by dsimp only;omega⟩,by dsimp only;omega⟩
  ·refine z2 Z Z c1<|z2 Z Z c1<|aq Z c1 Z<|ab Z<|z6<|zb<|ao<|ah Z<|aE Z<|ah Z<|z7 Z Z Z<|aa Z<|z7 Z Z Z<|az Z Z<|z7 Z Z Z<|ah Z<|zm (s:=23) Z (fun c10=>?_) (fun c10=>?_)
   ·refine z2 Z Z c10<|z2 Z Z c10<|z2 Z Z c10<|zc Z Z<|zc Z Z<|z2 Z Z c10<|z2 Z Z c10<|z2 Z Z c10<|zc Z Z<|zc Z Z<|z2 Z Z c10<|z2 Z Z c10<|zc Z Z<|zc Z Z<|z2 Z Z c10<|z7 Z Z Z<|ap Z c10 Z<|ap Z Z Z<|z6<|yq Z Z<|ao<|ab Z<|z6<|ze<|zi (x:=.bool _) Z ?_
    rw[if_neg (by simp_all[bY]<;>omega)] at hstep;exact jb hstep
   ·refine z7 Z Z c10<|aa Z<|z7 Z Z c10<|z8 (qg Z Z)<|z7 Z Z c10<|ah Z<|zm (s:=26) Z (fun c11=>?_) (fun c11=>?_)
    ·refine z7 Z Z c11<|aa Z<|z7 Z Z c11<|z8 (Gv.leq Z Z)<|z7 Z Z c10<|ap Z c11 Z<|z7 Z Z c10<|aE Z<|z7 Z Z c10<|ah Z<|zm (s:=31) Z (fun c12=>?_) (fun c12=>?_)
     ·refine z7 Z Z c12<|aa Z<|z7 Z Z c12<|z8 (yl Z Z)<|z7 Z Z c10<|ap Z c12 Z<|z7 Z Z c10<|ah Z<|zm (s:=35) Z (fun c13=>?_) (fun c13=>?_)
      ·refine z7 Z Z c13<|aa Z<|z7 Z Z c13<|z8 (yl Z Z)<|z7 Z Z c10<|ap Z c13 Z<|z7 Z Z Z<|aq Z c10 Z<|ap Z Z Z<|z6<|zw Z (fun c14=>?_) (fun c14=>?_)
       ·refine ao<|ab Z<|z6<|ze<|zi (x:=.bool _) Z ?_
        rw[if_neg (by simp_all[bY]<;>omega)] at hstep;exact jb hstep
       ·refine zg<|bj<|aa Z<|aF Z Z<|ax Z<|z6 ?_
        exact ⟨(p+(Utf8.decode s p).2,n+1),aY,aY,aS,⟨by rw[if_pos (by simp_all[bY]<;>omega)] at hstep;exact hstep,by dsimp only;omega,by dsimp only;omega⟩,by dsimp only;omega⟩
      ·refine z2 Z Z c13<|z2 Z Z c13<|z7 Z Z c10<|aq Z c13 Z<|z7 Z Z Z<|aq Z c10 Z<|ap Z Z Z<|z6<|yv Z Z<|zg<|bj<|aa Z<|aF Z Z<|ax Z<|z6 ?_
       exact ⟨(p+(Utf8.decode s p).2,n+1),aY,aY,aS,⟨by rw[if_pos (by simp_all[bY]<;>omega)] at hstep;exact hstep,by dsimp only;omega,by dsimp only;omega⟩,by dsimp only;omega⟩
     ·refine z2 Z Z c12<|z2 Z Z c12<|z7 Z Z c10<|aq Z c12 Z<|z7 Z Z c10<|ah Z<|z2 Z Z Z<|z2 Z Z Z<|z7 Z Z c10<|aq Z Z Z<|z7 Z Z Z<|aq Z c10 Z<|ap Z Z Z<|z6<|yv Z Z<|zg<|bj<|aa Z<|aF Z Z<|ax Z<|z6 ?_
      exact ⟨(p+(Utf8.decode s p).2,n+1),aY,aY,aS,⟨by rw[if_pos (by simp_all[bY]<;>omega)] at hstep;exact hstep,by dsimp only;omega,by dsimp only;omega⟩,by dsimp only;omega⟩
    ·refine z2 Z Z c11<|z2 Z Z c11<|z7 Z Z c10<|aq Z c11 Z<|z7 Z Z c10<|aE Z<|z7 Z Z c10<|ah Z<|z7 Z Z Z<|aa Z<|z7 Z Z Z<|z8 (yl Z Z)<|z7 Z Z c10<|ap Z Z Z<|z7 Z Z c10<|ah Z<|zm (s:=35) Z (fun c15=>?_) (fun c15=>?_)
     ·refine z7 Z Z c15<|aa Z<|z7 Z Z c15<|z8 (yl Z Z)<|z7 Z Z c10<|ap Z c15 Z<|z7 Z Z Z<|aq Z c10 Z<|ap Z Z Z<|z6<|zw Z (fun c16=>?_) (fun c16=>?_)
      ·refine ao<|ab Z<|z6<|ze<|zi (x:=.bool _) Z ?_
       rw[if_neg (by simp_all[bY]<;>omega)] at hstep;exact jb hstep
      ·refine zg<|bj<|aa Z<|aF Z Z<|ax Z<|z6 ?_
       exact ⟨(p+(Utf8.decode s p).2,n+1),aY,aY,aS,⟨by rw[if_pos (by simp_all[bY]<;>omega)] at hstep;exact hstep,by dsimp only;omega,by dsimp only;omega⟩,by dsimp only;omega⟩
     ·refine z2 Z Z c15<|z2 Z Z c15<|z7 Z Z c10<|aq Z c15 Z<|z7 Z Z Z<|aq Z c10 Z<|ap Z Z Z<|z6<|yv Z Z<|zg<|bj<|aa Z<|aF Z Z<|ax Z<|z6 ?_
      exact ⟨(p+(Utf8.decode s p).2,n+1),aY,aY,aS,⟨by rw[if_pos (by simp_all[bY]<;>omega)] at hstep;exact hstep,by dsimp only;omega,by dsimp only;omega⟩,by dsimp only;omega⟩
 ·rw[cW,dif_neg hlt] at hp
  refine ao<|ak.nextTover Z .head hlt<|z8 (BU Z Z)<|z6<|zb<|yv Z Z<|yc<|ao<|aa Z<|z8 (qg Z Z)<|ah Z<|zm (s:=45) Z (fun c17=>?_) (fun c17=>?_)
  ·refine z7 Z Z c17<|aa Z<|z7 Z Z c17<|z8 (Gv.leq Z Z)<|ap Z c17 Z<|ab Z<|z6<|ze<|zi (x:=.bool _) Z ?_
   rw[←hp];exact jb (by simp_all<;>(intros;omega))
  ·refine z2 Z Z c17<|z2 Z Z c17<|aq Z c17 Z<|ab Z<|z6<|ze<|zi (x:=.bool _) Z ?_
   rw[←hp];exact jb (by simp_all<;>(intros;omega))
theorem fb:aV prog E 42 [] (.fro 3 (ec.map l2)):=by
 refine zr func42 Z (by decide) Z<|ao<|z8 (uR Z)<|z6<|ao<|z8 (yn (cps:=[(0,[_]),(1,[_]),(2,[_])]) (rs:=[_,_,_]) dN Z Z Z)<|z8 (yn (cps:=[(0,[_]),(1,[_]),(2,[_])]) (rs:=[_,_,_]) dN Z Z Z)<|z8 (yn (cps:=[(0,[_]),(1,[_]),(2,[_])]) (rs:=[_,_,_]) dN Z Z Z)<|z8 (yn (cps:=[(0,[_]),(1,[_]),(2,[_])]) (rs:=[_,_,_]) dN Z Z Z)<|z8 (yn (cps:=[(0,[_]),(1,[_]),(2,[_])]) (rs:=[_,_,_]) dN Z Z Z)<|z8 (yn (cps:=[(0,[_]),(1,[_]),(2,[_])]) (rs:=[_,_,_]) dN Z Z Z)<|z8 (yn (cps:=[(0,[_]),(1,[_]),(2,[_])]) (rs:=[_,_,_]) dN Z Z Z)<|z8 (yn (cps:=[(0,[_]),(1,[_]),(2,[_])]) (rs:=[_,_,_]) dN Z Z Z)<|z8 (yn (cps:=[(0,[_]),(1,[_]),(2,[_])]) (rs:=[_,_,_]) dN Z Z Z)<|z8 (yn (cps:=[(0,[_]),(1,[_]),(2,[_])]) (rs:=[_,_,_]) dN Z Z Z)<|z8 (yn (cps:=[(0,[_]),(1,[_]),(2,[_])]) (rs:=[_,_,_]) dN Z Z Z)<|z8 (yn (cps:=[(0,[_]),(1,[_]),(2,[_])]) (rs:=[_,_,_]) dN Z Z Z)<|z8 (yn (cps:=[(0,[_]),(1,[_]),(2,[_])]) (rs:=[_,_,_]) dN Z Z Z)<|z8 (yn (cps:=[(0,[_]),(1,[_]),(2,[_])]) (rs:=[_,_,_]) dN Z Z Z)<|z8 (yn (cps:=[(0,[_]),(1,[_]),(2,[_])]) (rs:=[_,_,_]) dN Z Z Z)<|z8 (yn (cps:=[(0,[_]),(1,[_]),(2,[_])]) (rs:=[_,_,_]) dN Z Z Z)<|z8 (yn (cps:=[(0,[_]),(1,[_]),(2,[_])]) (rs:=[_,_,_]) dN Z Z Z)<|z8 (yn (cps:=[(0,[_]),(1,[_]),(2,[_])]) (rs:=[_,_,_]) dN Z Z Z)<|z8 (yn (cps:=[(0,[_]),(1,[_]),(2,[_])]) (rs:=[_,_,_]) dN Z Z Z)<|z8 (yn (cps:=[(0,[_]),(1,[_]),(2,[_])]) (rs:=[_,_,_]) dN Z Z Z)<|z8 (yn (cps:=[(0,[_]),(1,[_]),(2,[_])]) (rs:=[_,_,_]) dN Z Z Z)<|z8 (yn (cps:=[(0,[_]),(1,[_]),(2,[_])]) (rs:=[_,_,_]) dN Z Z Z)<|z8 (yn (cps:=[(0,[_]),(1,[_]),(2,[_])]) (rs:=[_,_,_]) dN Z Z Z)<|z8 (yn (cps:=[(0,[_]),(1,[_]),(2,[_])]) (rs:=[_,_,_]) dN Z Z Z)<|z8 (yn (cps:=[(0,[_]),(1,[_]),(2,[_])]) (rs:=[_,_,_]) dN Z Z Z)<|z8 (yn (cps:=[(0,[_]),(1,[_]),(2,[_])]) (rs:=[_,_,_]) dN Z Z Z)<|z8 (yn (cps:=[(0,[_]),(1,[_]),(2,[_])]) (rs:=[_,_,_]) dN Z Z Z)<|yk (rows:=[[_,_,_],[_,_,_],[_,_,_],[_,_,_],[_,_,_],[_,_,_],[_,_,_],[_,_,_],[_,_,_],[_,_,_],[_,_,_],[_,_,_],[_,_,_],[_,_,_],[_,_,_],[_,_,_],[_,_,_],[_,_,_],[_,_,_],[_,_,_],[_,_,_],[_,_,_],[_,_,_],[_,_,_],[_,_,_],[_,_,_],[_,_,_]]) yU Z Z Z Z Z<|z8 (BS Z)<|z6<|ze<|zi (x:=.fro _ _) Z ?_
 rfl
theorem dW (k n:Int):aV prog E 66 [.int .i64 k,.int .i64 n] (.bool (decide (0≤k)&&decide (k<n))):=by
 refine zr func66 Z (by decide) Z<|ao<|ab Z<|z6<|ao<|aa Z<|z8 (qg Z Z)<|ah Z<|zm (s:=7) Z (fun c18=>?_) (fun c18=>?_)
 ·refine z7 Z Z c18<|aa Z<|z7 Z Z c18<|aa Z<|z7 Z Z c18<|ay Z Z<|ap Z c18 Z<|ab Z<|z6<|ze<|zi (x:=.bool _) Z ?_
  exact jb (by simp_all<;>omega)
 ·refine z2 Z Z c18<|z2 Z Z c18<|z2 Z Z c18<|aq Z c18 Z<|ab Z<|z6<|ze<|zi (x:=.bool _) Z ?_
  exact jb (by simp_all<;>omega)
def Dp (l:List UInt8):ByteArray:=⟨l.toArray⟩
set_option linter.defProp false
def qb:=@bH.two
end
end Go.Proofs.YtbconpmnckokoaaGreatDoor
