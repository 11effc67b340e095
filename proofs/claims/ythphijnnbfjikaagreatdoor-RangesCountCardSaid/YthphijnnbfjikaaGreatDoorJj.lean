/- Names; what an instruction of a shaped program is. No conditions. -/
import Derived.Shelf.Small.Bits
import Derived.Shelf.Small.Wraps
import Derived.Shelf.Strconv.Itoa0
import Derived.Shelf.Strconv.Itoa1
import Derived.Shelf.LaysM
import Derived.Shelf.Strconv.Itoa2
import Derived.Shelf.Strconv.Itoa3
import Derived.Shelf.Sort.Plain
import Derived.Shelf.Unicode.Props
import Derived.Shelf.Unicode.PropsLaid
import Derived.Shelf.Bits.Mul64
import Derived.Shelf.Unicode.Is16White
import Derived.Shelf.Unicode.IsSpaceAny
import Derived.Shelf.Unicode.Is16WhiteD
import Derived.Shelf.Unicode.Is16Any
import Derived.Shelf.Unicode.Is32Any
import Derived.Shelf.Unicode.ExclAny
import Derived.Shelf.Unicode.PredsAny
import Derived.Shelf.Unicode.PredsPay
import Derived.Shelf.Slices.Turned
import Derived.Shelf.Slices.Reverse
import Derived.Shelf.Slices.Equal
import Derived.Ground.Names2Prog
import Derived.Shelf.Slices.Clone
import Derived.Shelf.Slices.SearchI
import Derived.Shelf.Slices.Cells
import Derived.Shelf.Slices.In.SortNone
import Derived.Shelf.Slices.Empties2
import Derived.Ground.SlgnProg
import Derived.Shelf.SlicesE.Reverse
import Derived.Shelf.SlicesE.Clone
import Derived.Test.YthphijnnbfjikaaGreatDoorChecked
import Derived.Test.YthphijnnbfjikaaGreatDoorJi
import Derived.Test.YthphijnnbfjikaaGreatDoorJc
import Derived.Lib.ItoaLen
import Derived.Lib.Join
import Derived.Test.YthphijnnbfjikaaGreatDoorJd
import Derived.Test.YthphijnnbfjikaaGreatDoorJe
import Derived.Lib.MapLaws
set_option linter.unusedVariables false
set_option linter.unusedSimpArgs false
set_option linter.unusedSectionVars false
namespace Go.Proofs
open Go.Shelf
def Tryz.laysM246_ren:Go.Shelf.Ren:=⟨fun|246=>101|283=>131|284=>132|285=>133|286=>134|129=>130|317=>151|318=>152|319=>153|320=>154|337=>164|338=>165|n=>n,fun|2=>2|3=>3|9=>9|4=>4|171=>199|0=>0|53=>163|37=>201|5=>5|173=>202|212=>221|51=>160|20=>20|213=>222|46=>135|232=>237|233=>238|n=>n,fun|17=>0|18=>1|19=>2|n=>n⟩
def Tryz.laysM243_ren:Go.Shelf.Ren:=⟨fun|243=>71|246=>101|283=>131|284=>132|285=>133|286=>134|129=>130|317=>151|318=>152|319=>153|320=>154|337=>164|338=>165|n=>n,fun|3=>3|9=>9|2=>2|4=>4|171=>199|0=>0|53=>163|37=>201|5=>5|173=>202|212=>221|51=>160|20=>20|213=>222|46=>135|232=>237|233=>238|n=>n,fun|17=>0|18=>1|19=>2|n=>n⟩
def Tryz.laysM171_ren:Go.Shelf.Ren:=⟨fun|171=>45|243=>71|246=>101|283=>131|284=>132|285=>133|286=>134|129=>130|317=>151|318=>152|319=>153|320=>154|337=>164|338=>165|n=>n,fun|3=>3|9=>9|2=>2|4=>4|171=>199|0=>0|53=>163|37=>201|5=>5|173=>202|212=>221|51=>160|20=>20|213=>222|46=>135|232=>237|233=>238|n=>n,fun|17=>0|18=>1|19=>2|n=>n⟩
theorem Tryz.laysM171:Go.Proofs.LaysM.n171 prog Tryz.laysM171_ren:={
 mixed:=by kernel_rfl
 f129:=func130.trans (congrArg some (by kernel_rfl))
 f171:=func45.trans (congrArg some (by kernel_rfl))
 f243:=func71.trans (congrArg some (by kernel_rfl))
 f246:=func101.trans (congrArg some (by kernel_rfl))
 f283:=func131.trans (congrArg some (by kernel_rfl))
 f284:=func132.trans (congrArg some (by kernel_rfl))
 f285:=func133.trans (congrArg some (by kernel_rfl))
 f286:=func134.trans (congrArg some (by kernel_rfl))
 f317:=func151.trans (congrArg some (by kernel_rfl))
 f318:=func152.trans (congrArg some (by kernel_rfl))
 f319:=func153.trans (congrArg some (by kernel_rfl))
 f320:=func154.trans (congrArg some (by kernel_rfl))
 f337:=func164.trans (congrArg some (by kernel_rfl))
 f338:=func165.trans (congrArg some (by kernel_rfl))
 t0:=underlying0
 a0:=isAgg0
 z0:=sizeOf0
 v0:=zeroValue0
 t2:=underlying2
 a2:=isAgg2
 z2:=sizeOf2
 v2:=zeroValue2
 t3:=underlying3
 a3:=isAgg3
 z3:=sizeOf3
 v3:=zeroValue3
 t4:=underlying4
 a4:=isAgg4
 z4:=sizeOf4
 v4:=zeroValue4
 t5:=underlying5
 a5:=isAgg5
 z5:=sizeOf5
 v5:=zeroValue5
 t9:=underlying9
 a9:=isAgg9
 z9:=sizeOf9
 v9:=zeroValue9
 t20:=underlying20
 a20:=isAgg20
 z20:=sizeOf20
 v20:=zeroValue20
 t37:=underlying201
 a37:=isAgg201
 z37:=sizeOf201
 v37:=zeroValue201
 t46:=underlying135
 a46:=isAgg135
 z46:=sizeOf135
 v46:=zeroValue135
 t51:=underlying160
 a51:=isAgg160
 z51:=sizeOf160
 v51:=zeroValue160
 t53:=underlying163
 a53:=isAgg163
 z53:=sizeOf163
 v53:=zeroValue163
 t171:=underlying199
 a171:=isAgg199
 z171:=sizeOf199
 v171:=zeroValue199
 t173:=underlying202
 a173:=isAgg202
 z173:=sizeOf202
 v173:=zeroValue202
 t212:=underlying221
 a212:=isAgg221
 z212:=sizeOf221
 v212:=zeroValue221
 t213:=underlying222
 a213:=isAgg222
 z213:=sizeOf222
 t232:=underlying237
 a232:=isAgg237
 z232:=sizeOf237
 v232:=zeroValue237
 t233:=underlying238
 a233:=isAgg238
 z233:=sizeOf238
 v233:=zeroValue238
 g17:=by kernel_rfl
 g18:=by kernel_rfl
 g19:=by kernel_rfl
 i0:=by kernel_rfl
 i2:=by kernel_rfl
 i3:=by kernel_rfl
 i4:=by kernel_rfl
 i5:=by kernel_rfl
 i9:=by kernel_rfl
 i20:=by kernel_rfl
 i37:=by kernel_rfl
 i46:=by kernel_rfl
 i51:=by kernel_rfl
 i53:=by kernel_rfl
 i171:=by kernel_rfl
 i173:=by kernel_rfl
 i212:=by kernel_rfl
 i232:=by kernel_rfl
 i233:=by kernel_rfl
 m17:=by kernel_rfl
 m18:=by kernel_rfl
 m19:=by kernel_rfl }
open Go.RowKit Go.Sort Go.Lib in
theorem Tryz.strconv_Itoa (n:Int) (h0:-9223372036854775808≤n) (h1:n≤9223372036854775807) (w:World) (htab:Lib.TabIs prog w "internal/strconv.uint64pow10" .u64 Lib.pow10Tab) :
  Calls prog 45 #[.int .i64 n] w fun e w'=>e=.returned (.string ⟨(Lib.itoa n).toArray⟩)∧∃k os,w'=grow (w.drewN k) os:=Any.strconv_Itoa Tryz.laysM171 n h0 h1 w htab
def Tryz.lays189_ren:Go.Shelf.Ren:=⟨fun|189=>69|125=>100|257=>99|128=>129|129=>130|294=>120|295=>121|296=>122|297=>123|298=>124|299=>125|216=>126|300=>127|301=>128|328=>145|329=>146|330=>147|331=>148|332=>149|215=>150|343=>163|n=>n,fun|28=>24|3=>3|46=>135|0=>0|51=>160|53=>163|4=>4|183=>191|182=>190|131=>195|5=>5|9=>9|218=>214|222=>218|228=>228|229=>229|n=>n,fun|n=>n⟩
theorem Tryz.lays189:Go.Proofs.Lays.n189 prog Tryz.lays189_ren:={
 mixed:=by kernel_rfl
 f125:=func100.trans (congrArg some (by kernel_rfl))
 f128:=func129.trans (congrArg some (by kernel_rfl))
 f129:=func130.trans (congrArg some (by kernel_rfl))
 f189:=func69.trans (congrArg some (by kernel_rfl))
 f215:=func150.trans (congrArg some (by kernel_rfl))
 f216:=func126.trans (congrArg some (by kernel_rfl))
 f257:=func99.trans (congrArg some (by kernel_rfl))
 f294:=func120.trans (congrArg some (by kernel_rfl))
 f295:=func121.trans (congrArg some (by kernel_rfl))
 f296:=func122.trans (congrArg some (by kernel_rfl))
 f297:=func123.trans (congrArg some (by kernel_rfl))
 f298:=func124.trans (congrArg some (by kernel_rfl))
 f299:=func125.trans (congrArg some (by kernel_rfl))
 f300:=func127.trans (congrArg some (by kernel_rfl))
 f301:=func128.trans (congrArg some (by kernel_rfl))
 f328:=func145.trans (congrArg some (by kernel_rfl))
 f329:=func146.trans (congrArg some (by kernel_rfl))
 f330:=func147.trans (congrArg some (by kernel_rfl))
 f331:=func148.trans (congrArg some (by kernel_rfl))
 f332:=func149.trans (congrArg some (by kernel_rfl))
 f343:=func163.trans (congrArg some (by kernel_rfl))
 t0:=underlying0
 a0:=isAgg0
 z0:=sizeOf0
 v0:=zeroValue0
 t3:=underlying3
 a3:=isAgg3
 z3:=sizeOf3
 v3:=zeroValue3
 t4:=underlying4
 a4:=isAgg4
 z4:=sizeOf4
 v4:=zeroValue4
 t5:=underlying5
 a5:=isAgg5
 z5:=sizeOf5
 v5:=zeroValue5
 t9:=underlying9
 a9:=isAgg9
 z9:=sizeOf9
 v9:=zeroValue9
 t28:=underlying24
 a28:=isAgg24
 z28:=sizeOf24
 v28:=zeroValue24
 t46:=underlying135
 a46:=isAgg135
 z46:=sizeOf135
 v46:=zeroValue135
 t51:=underlying160
 a51:=isAgg160
 z51:=sizeOf160
 v51:=zeroValue160
 t53:=underlying163
 a53:=isAgg163
 z53:=sizeOf163
 v53:=zeroValue163
 t131:=underlying195
 a131:=isAgg195
 z131:=sizeOf195
 v131:=zeroValue195
 t182:=underlying190
 a182:=isAgg190
 z182:=sizeOf190
 v182:=zeroValue190
 t183:=underlying191
 a183:=isAgg191
 z183:=sizeOf191
 v183:=zeroValue191
 t218:=underlying214
 a218:=isAgg214
 z218:=sizeOf214
 v218:=zeroValue214
 t222:=underlying218
 a222:=isAgg218
 z222:=sizeOf218
 v222:=zeroValue218
 t228:=underlying228
 a228:=isAgg228
 z228:=sizeOf228
 v228:=zeroValue228
 t229:=underlying229
 a229:=isAgg229
 z229:=sizeOf229
 v229:=zeroValue229 }
open Go.Sort Go.RowKit in
theorem Tryz.slices_Sort_int (blk off cap:Nat) (zs:List Int) (w:World) (hH:Holds (Value.int .i64) w blk off zs.toArray) (hblk:blk<w.heap.size) (hsz:zs.length<4611686018427387904) :
  Calls prog 69 #[.slice (some ⟨blk,off,none⟩) zs.length cap] w fun e w'=>
   e=.returned (.tuple #[])∧∃n os,w'=grow (putRow (Value.int .i64) (Sort.ahead w n) blk off (zs.mergeSort fun x y=>decide (x≤y)).toArray) os:=Any.slices_Sort_int Tryz.lays189 blk off cap zs w hH hblk hsz
def Tryz.lays200_ren:Go.Shelf.Ren:=⟨fun|200=>166|261=>174|311=>176|312=>177|n=>n,fun|21=>21|4=>4|51=>160|5=>5|119=>239|0=>0|141=>241|196=>247|193=>244|3=>3|198=>250|49=>248|194=>245|201=>253|226=>255|46=>135|227=>256|n=>n,fun|7=>3|8=>4|n=>n⟩
theorem Tryz.lays200:Go.Proofs.Lays.n200 prog Tryz.lays200_ren:={
 mixed:=by kernel_rfl
 f200:=func166.trans (congrArg some (by kernel_rfl))
 f261:=func174.trans (congrArg some (by kernel_rfl))
 f311:=func176.trans (congrArg some (by kernel_rfl))
 f312:=func177.trans (congrArg some (by kernel_rfl))
 t0:=underlying0
 a0:=isAgg0
 z0:=sizeOf0
 v0:=zeroValue0
 t3:=underlying3
 a3:=isAgg3
 z3:=sizeOf3
 v3:=zeroValue3
 t4:=underlying4
 a4:=isAgg4
 z4:=sizeOf4
 v4:=zeroValue4
 t5:=underlying5
 a5:=isAgg5
 z5:=sizeOf5
 v5:=zeroValue5
 t21:=underlying21
 a21:=isAgg21
 z21:=sizeOf21
 v21:=zeroValue21
 t46:=underlying135
 a46:=isAgg135
 z46:=sizeOf135
 v46:=zeroValue135
 t49:=underlying248
 a49:=isAgg248
 z49:=sizeOf248
 v49:=zeroValue248
 t51:=underlying160
 a51:=isAgg160
 z51:=sizeOf160
 v51:=zeroValue160
 t119:=underlying239
 a119:=isAgg239
 z119:=sizeOf239
 t141:=underlying241
 a141:=isAgg241
 z141:=sizeOf241
 v141:=zeroValue241
 t193:=underlying244
 a193:=isAgg244
 z193:=sizeOf244
 v193:=zeroValue244
 t194:=underlying245
 a194:=isAgg245
 z194:=sizeOf245
 v194:=zeroValue245
 t196:=underlying247
 a196:=isAgg247
 z196:=sizeOf247
 v196:=zeroValue247
 t198:=underlying250
 a198:=isAgg250
 z198:=sizeOf250
 v198:=zeroValue250
 t201:=underlying253
 a201:=isAgg253
 z201:=sizeOf253
 v201:=zeroValue253
 t226:=underlying255
 a226:=isAgg255
 z226:=sizeOf255
 v226:=zeroValue255
 t227:=underlying256
 a227:=isAgg256
 z227:=sizeOf256
 v227:=zeroValue256
 g7:=by kernel_rfl
 g8:=by kernel_rfl }
def Tryz.lays264_ren:Go.Shelf.Ren:=⟨fun|264=>97|n=>n,fun|53=>163|46=>135|n=>n,fun|n=>n⟩
theorem Tryz.lays264:Go.Proofs.Lays.n264 prog Tryz.lays264_ren:={
 mixed:=by kernel_rfl
 f264:=func97.trans (congrArg some (by kernel_rfl))
 t46:=underlying135
 a46:=isAgg135
 z46:=sizeOf135
 v46:=zeroValue135
 t53:=underlying163
 a53:=isAgg163
 z53:=sizeOf163
 v53:=zeroValue163 }
open Go.RowKit Go.Lib in
theorem Tryz.bits_Mul64 (x y:Nat) (hx:x<18446744073709551616) (hy:y<18446744073709551616) (w:World) :
  Calls prog 97 #[.int .u64 x,.int .u64 y] w fun e w'=>e=.returned (.tuple #[.int .u64 ((x*y / 18446744073709551616:Nat):Int),.int .u64 ((x*y % 18446744073709551616:Nat):Int)])∧w'=w:=Any.bits_Mul64 Tryz.lays264 x y hx hy w
def Tryz.lays212_ren:Go.Shelf.Ren:=⟨fun|212=>67|263=>96|264=>97|n=>n,fun|46=>135|51=>160|146=>161|53=>163|148=>164|n=>n,fun|n=>n⟩
theorem Tryz.lays212:Go.Proofs.Lays.n212 prog Tryz.lays212_ren:={
 mixed:=by kernel_rfl
 f212:=func67.trans (congrArg some (by kernel_rfl))
 f263:=func96.trans (congrArg some (by kernel_rfl))
 f264:=func97.trans (congrArg some (by kernel_rfl))
 t46:=underlying135
 a46:=isAgg135
 z46:=sizeOf135
 v46:=zeroValue135
 t51:=underlying160
 a51:=isAgg160
 z51:=sizeOf160
 v51:=zeroValue160
 t53:=underlying163
 a53:=isAgg163
 z53:=sizeOf163
 v53:=zeroValue163
 t146:=underlying161
 a146:=isAgg161
 z146:=sizeOf161
 v146:=zeroValue161
 t148:=underlying164
 a148:=isAgg164
 z148:=sizeOf164
 v148:=zeroValue164 }
open Go.RowKit Go.Lib in
theorem Tryz.bits_Mul (x y:Nat) (hx:x<18446744073709551616) (hy:y<18446744073709551616) (w:World) :
  Calls prog 67 #[.int .u64 x,.int .u64 y] w fun e w'=>e=.returned (.tuple #[.int .u64 ((x*y / 18446744073709551616:Nat):Int),.int .u64 ((x*y % 18446744073709551616:Nat):Int)])∧w'=w:=Any.bits_Mul Tryz.lays212 x y hx hy w
open Go.RowKit Go.Lib in
theorem Tryz.unicode_IsLetter_all (r:Int) (w:World) (hlo:-2147483648≤r) (hhi:r≤2147483647) (htab:Lib.TabIs prog w "unicode.properties" .u8 Lib.propertiesTab) (hV:RVar 4 letterT w) :
  Calls prog 166 #[.int .i32 r] w fun e w'=>e=.returned (.bool (isLetterU r))∧Below w.heap.size w w':=Any.unicode_IsLetter_all Tryz.lays200 (by kernel_rfl) r w hlo hhi htab hV
def Tryz.lays107_ren:Go.Shelf.Ren:=⟨fun|107=>68|108=>98|n=>n,fun|28=>24|3=>3|4=>4|0=>0|n=>n,fun|n=>n⟩
def Tryz.lays112_ren:Go.Shelf.Ren:=⟨fun|112=>95|n=>n,fun|28=>24|3=>3|4=>4|0=>0|n=>n,fun|n=>n⟩
theorem Tryz.lays112:Go.Proofs.Lays.n112 prog Tryz.lays112_ren:={
 mixed:=by kernel_rfl
 f112:=func95.trans (congrArg some (by kernel_rfl))
 t0:=underlying0
 a0:=isAgg0
 z0:=sizeOf0
 v0:=zeroValue0
 t3:=underlying3
 a3:=isAgg3
 z3:=sizeOf3
 v3:=zeroValue3
 t4:=underlying4
 a4:=isAgg4
 z4:=sizeOf4
 v4:=zeroValue4
 t28:=underlying24
 a28:=isAgg24
 z28:=sizeOf24
 v28:=zeroValue24 }
open Go.RowKit Go.Lib Go.Sort in
theorem Tryz.slices_Reverse_int (blk off cap:Nat) (zs:List Int) (w:World) (hH:Holds (Value.int .i64) w blk off zs.toArray) (hsz:zs.length≤9223372036854775807) :
  Calls prog 95 #[.slice (some ⟨blk,off,none⟩) zs.length cap] w fun e w'=>e=.returned (.tuple #[])∧∃n,w'=putRow (Value.int .i64) (Sort.ahead w n) blk off zs.reverse.toArray:=Any.slices_Reverse_int Tryz.lays112 blk off cap zs w hH hsz
open Go.RowKit Go.Lib Go.Sort in
theorem Tryz.slices_Reverse_int_empty (a:Option Addr) (cap:Nat) (w:World) :
  Calls prog 95 #[.slice a 0 cap] w fun e w'=>e=.returned (.tuple #[])∧w'=w:=Any.slices_Reverse_int_empty Tryz.lays112 a cap w
open Go.RowKit Go.Sort in
theorem Tryz.slices_Sort_int_none (p:Option Addr) (cap:Nat) (w:World) :
  Calls prog 69 #[.slice p 0 cap] w fun e w'=>e=.returned (.tuple #[])∧w'=w:=Any.slices_Sort_int_none Tryz.lays189 p cap w
end Go.Proofs
namespace Go.Proofs.YthphijnnbfjikaaGreatDoor
section
open Go.Proofs.Tryz
open Go.Proofs
variable {E:World}
set_option maxRecDepth 20000
theorem tq (l:List Int) (i:Nat) (T:TypeId) (hl:l.length≤200000):aU prog E 95 [.own i l.length] [(i,.grow 1 T (cI l))] fun r O=>r=.tup []∧O=[(i,.grow 1 T (cI l.reverse))]:=
 aU.turned (g:=List.reverse) (B:=200001) func95 rfl (by decide) (fun l=>List.length_reverse) (fun blk cap zs w hH _ hz=>(Tryz.slices_Reverse_int blk 0 cap zs w hH (by omega)).mono fun e w' ⟨h1,n,h2⟩=>⟨h1,n,#[],by rw[h2,Go.Sort.grow_empty]⟩)
  (fun cap w=>Tryz.slices_Reverse_int_empty none cap w) rfl (by omega)
theorem tr (l:List Int) (i:Nat) (T:TypeId) (hl:l.length≤200000):aU prog E 69 [.own i l.length] [(i,.grow 1 T (cI l))] fun r O=>r=.tup []∧O=[(i,.grow 1 T (cI (iq l)))]:=
 aU.turned (g:=iq) (B:=200001) func69 rfl (by decide) (fun l=>(dC l).length_eq) (fun blk cap zs w hH hb hz=>Tryz.slices_Sort_int blk 0 cap zs w hH hb (by omega))
  (fun cap w=>Tryz.slices_Sort_int_none none cap w) rfl (by omega)
theorem aF.ofSame {E:World} {P:Program} {f:FuncId} {fn:Func} {c:Code} {ars:List AV} {vs:List Value} {r:Value} {x:AV} (hf:P.funcs[f]?=some fn) (hb:fn.body=some c) (hn:fn.name≠"runtime.NumGoroutine") (has:ars=vs.map lit)
  (h:∀w,Calls P f vs.toArray w fun e w'=>e=.returned r∧w'=w) (hr:∀I,br I x r):aF P E f ars x:=fun I F w us h1 h2=>by
 subst has
 rw[jO h1]
 refine Fn.ofCalls hf hb hn ?_
 exact (h w).mono fun e w' ⟨he,hw⟩=>⟨_,he,I,x,[],.refl _,hr I,by rw[hw];exact h2,rfl⟩
theorem zQ (x y:Nat) (hx:x<18446744073709551616) (hy:y<18446744073709551616):aF prog E 67 [.int .u64 (x:Int),.int .u64 (y:Int)] (.tup [.int .u64 ((x*y / 18446744073709551616:Nat):Int),.int .u64 ((x*y % 18446744073709551616:Nat):Int)]):=
 aF.ofSame (vs:=[.int .u64 x,.int .u64 y]) func67 rfl (by decide) rfl (fun w=>Tryz.bits_Mul x y hx hy w) (fun I=>⟨_,rfl,_,_,rfl,rfl,_,_,rfl,rfl,rfl⟩)
theorem vl (x y:Nat) (hx:x<18446744073709551616) (hy:y<18446744073709551616):aF prog E 97 [.int .u64 (x:Int),.int .u64 (y:Int)] (.tup [.int .u64 ((x*y / 18446744073709551616:Nat):Int),.int .u64 ((x*y % 18446744073709551616:Nat):Int)]):=
 aF.ofSame (vs:=[.int .u64 x,.int .u64 y]) func97 rfl (by decide) rfl (fun w=>Tryz.bits_Mul64 x y hx hy w) (fun I=>⟨_,rfl,_,_,rfl,rfl,_,_,rfl,rfl,rfl⟩)
def uq (v:Int) (n k:Nat):List Value:=List.replicate k (.int .i64 v)++List.replicate (n - k) (.int .i64 0)
theorem wZ {v:Int} {n k:Nat} (h:k≤n):(uq v n k).length=n:=by unfold uq;simp;omega
theorem tv {v:Int} {n k q:Nat} (h:q≤k):(uq v n k).take q=List.replicate q (.int .i64 v):=by unfold uq;rw[List.take_append_of_le_length (by simp;exact h),List.take_replicate,Nat.min_eq_left h]
theorem Cx {v:Int} {n k q:Nat} (h:k+q≤n):(uq v n k).take k++List.replicate q (.int .i64 v)++(uq v n k).drop (k+q)=uq v n (k+q):=by
 rw[tv (Nat.le_refl _)]
 unfold uq
 rw[List.drop_append,List.drop_eq_nil_of_le (by simp),List.length_replicate,List.drop_replicate,List.replicate_append_replicate,List.nil_append]
 congr 2
 omega
theorem Ea {v:Int} {n k:Nat}:∀u∈uq v n k,u.oneCell'=true:=fun u hu=>by
 unfold uq at hu
 rcases List.mem_append.1 hu with h|h
 ·rw[List.eq_of_mem_replicate h];rfl
 ·rw[List.eq_of_mem_replicate h];rfl
theorem Cy (v:Int) (n:Nat):(uq v n n).map lit=cI (List.replicate n v):=by unfold uq cI;simp[lit]
theorem Eb {I:G} {k:IntKind} {v:Int} {x:Value} (h:br I (.fro 1 [[.int k v]]) x):∃b off c,x=.slice (some ⟨b,off,none⟩) 1 c∧xU I.k b off (.int k v):=by
 obtain ⟨a,n,c,e,hn,_,_,⟨b,off,vs,ea,hl,hr,hk⟩,_⟩:=h
 obtain ⟨u,us,rfl,hu,_⟩:=hr
 have hu:u=.int k v:=hu
 subst ea hu
 simp only[List.length_cons,List.length_nil] at hn
 subst hn
 exact ⟨b,off,c,e,by have:=hk 0 _ rfl;simpa using this⟩
theorem F7 {env:aH} {O:OL} {y:Operand} {k:IntKind} {v:Int} (hy:aP env y=.fro 1 [[.int k v]]):∀I F ρ w,dx I env ρ→fI I O F E w→∃a sc,ev ρ y=.slice (some a) 1 sc∧∀j u,([Value.int k v]:List Value)[j]?=some u→w.cell? (a.add j)=some u:=fun I F ρ w h1 h2=>by
 have h:=h1.ev y
 rw[hy] at h
 obtain ⟨b,off,c,e,hk⟩:=Eb h
 obtain ⟨_,L,_,hS⟩:=h2
 refine ⟨⟨b,off,none⟩,c,e,fun j u hj=>?_⟩
 cases j with
 |zero=>simp at hj;subst hj;rw[bo];exact hS.at_ (hk.at_ _)
 |succ j=>simp at hj
theorem F8 {env:aH} {O O':OL} {y:Operand} {b n c:Nat} {T:TypeId} {vs cs:List Value} (hy:aP env y=D9 b 0 n c) (hO:cz O 0 (zP b T vs) O') (hc:∀(j:Nat) u,cs[j]?=some u→vs[j]?=some u):∀I F ρ w,dx I env ρ→fI I O F E w→∃a sc,ev ρ y=.slice (some a) n sc∧∀j u,cs[j]?=some u→w.cell? (a.add j)=some u:=fun I F ρ w h1 h2=>by
 have h:=fA h1 hy
 obtain ⟨_,L,hL,hS⟩:=h2
 obtain ⟨A,B,hp,hA,hB⟩:=hO.rep hL
 have hA:A=[(b,.cells vs.toArray T (0,0))]:=hA
 subst hA
 have hS2:SL I.k ((b,.cells vs.toArray T (0,0))::(B++F)) E w:=hS.perm ((hp.append_right F).symm)
 refine ⟨⟨b,0,none⟩,c,h,fun j u hj=>?_⟩
 rw[bo,hS2.cell_own,List.getElem?_toArray,Nat.zero_add]
 exact hc j u hj
theorem aB (v:Int) (n:Nat) (hn:n≤100000) (h0:0<n):aU prog E 38 [.fro 1 ([v].map eE),.int .i64 n] [] (fun x O'=>∃i:Nat,x=.own i n∧O'=[(i,.grow 1 3 (cI (List.replicate n v)))]):=by
 have hw:IntKind.wrap .u64 (n:Int)=n:=by unfold IntKind.wrap;simp[IntKind.bits,IntKind.signed];omega
 have hm:(1*n / 18446744073709551616:Nat)=0:=by omega
 have hm2:(1*n % 18446744073709551616:Nat)=n:=by omega
 refine zk func38 Z (by decide) Z ?_
 have hmul:aF prog E 67 [.int .u64 1,.int .u64 (IntKind.wrap .u64 (n:Int))] (.tup [.int .u64 0,.int .u64 (n:Int)]):=by
  have:=zQ (E:=E) 1 n (by omega) (by omega)
  rw[hm,hm2] at this
  rw[hw];exact this
 refine ae<|z7 (mS Z)<|z6<|ze<|ae<|aa Z<|ax Z Z<|z6<|yn Z (by simp)<|zi<|ae<|bh Z<|au jh Z<|z7 (Gv.conv Y0 Zw Z)<|aa Z<|z7 (Gv.conv Y0 Zw Z)<|zg (hmul) Z<|z7 (vX Z)<|z7 (r8 Z Z)<|z7 (r8 Z Z)<|aq Z<|aq Z<|z6<|ze<|ae<|aa Z<|z7 (Gv.gtr Z Z)<|ay Z<|za Z Z (by decide)<|aa Z<|za Z Z (by decide)<|z7 (Gv.gtr Z Z)<|z7 (C8 Z (by decide) Z)<|z6<|yn Z (by simp;omega)<|zi<|ae<|aa Z<|z7 (Gv.conv Zw Y0 Z)<|ai.makeRow (m:=n) jh type3 Z Z Z Z Z (by show IntKind.wrap .i64 (n:Int)=n;unfold IntKind.wrap;simp[IntKind.bits,IntKind.signed];omega) (by show IntKind.wrap .i64 (n:Int)=n;unfold IntKind.wrap;simp[IntKind.bits,IntKind.signed];omega) (by show (8:Int)*_≤_;omega) (by omega)<|fun b=>z7 (mS Z) ?_
 refine z6<|ae<|z7 (yb (v:=.raw _) Z)<|bh Z<|ai.copyRow (cs:=[.int .i64 v]) (q:=1) jh Z Z Z (Nat.min_eq_left h0).symm .head (by rw[List.length_replicate];omega) (by simp[Value.oneCell']) (F7 Z) ?_
 have hstart:(List.replicate n (Value.int .i64 0)).take 0++[Value.int .i64 v]++(List.replicate n (Value.int .i64 0)).drop (0+1)=uq v n 1:=by unfold uq;simp[List.drop_replicate]
 rw[hstart]
 refine aq Z<|z6<|ze<|zj<|ya (γ:=Nat) [7] (fun k=>[(8,.int .i64 k)]) (fun k=>[(0,zP b 3 (uq v n k))]) (fun k=>1≤k∧k≤n) (fun k=>n - k) 1 aT aJ (⟨Nat.le_refl _,h0⟩) ?_
 rintro k ⟨hk1,hk⟩
 refine ze<|ae<|aa Z<|z7 (yb (v:=.raw _) Z)<|z7 (Gv.lenRow jh Z)<|ax Z Z<|z6<|zp Z (fun ck=>?_) (fun ck=>?_)
 ·have hk2:k<n:=by simp at ck;omega
  obtain ⟨q,hq⟩:∃q,q=min k (n - k):=⟨_,rfl⟩
  have hq1:0<q∧q≤k∧k+q≤n:=by omega
  refine zi<|zj<|zw (fun j=>false) (by kernel_rfl) Z (zn (.rest _))<|ao 0 Z (fC Z)<|ao 1 Z (yb (v:=.raw _) Z)<|ao 2 Z (fC Z)<|ao 3 Z (Gv.rowLo (j:=k) jh jm Z Z Z (by omega) (by omega) (by omega))<|ao 4 Z (yb (v:=.raw _) Z)<|ao 5 Z (fC Z)<|ao 6 Z (Gv.rowHi (j:=k) jh jm Z Z Z (by omega))<|aL 7 Z<|ai.copyRow (cs:=List.replicate q (.int .i64 v)) (q:=q) jh Z Z (List.length_replicate ..) hq .head (by rw[wZ hk];omega) (fun u hu=>by rw[List.eq_of_mem_replicate hu];rfl) (F8 (vs:=uq v n k) Z .head (fun j u hj=>by rw[←tv (v:=v) (n:=n) hq1.2.1,List.getElem?_take] at hj;split at hj;exact hj;cases hj)) ?_
  rw[Cx hq1.2.2]
  refine z6<|ao 8 Z (H6 Z Z)<|ao 9 Z (H5 Z)<|bO ?_
  exact ⟨k+q,aT,aT,aJ,⟨by omega,hq1.2.2⟩,by omega⟩
 ·have hkn:k=n:=by simp at ck;omega
  subst hkn
  refine y8<|ae<|z7 (yb (v:=.raw _) Z)<|z7 (mS Z)<|z6<|cO.rowOwn (t:=4) Z .head (wZ (Nat.le_refl _)) Ea (fun i=>?_)
  rw[Cy]
  refine zh<|zm (x:=.own _ _) Z ?_
  exact ⟨i,rfl,rfl⟩
end
section
open Go.Proofs.Tryz
open Go.Proofs
theorem Ih:gM prog 46 1 [.int .i64 0,.int .i64 0]:=⟨_,_,_,Zb,zeroValue46,jm,rfl⟩
set_option maxRecDepth 20000
variable {E:World}
def eN (f:ac) (x:bg):Bool:=decide ((cE x.op).1=⟨#[]⟩)||!decide (x.args.length=(bu x.op).length)||!x.args.all (cA f)
def eT (f:ac) (x:bg):Bool:=(eX x.op&&!cA f x.dst)||(!eX x.op&&!decide (x.dst=-1))
def bC (f:ac) (x:bg):Bool:=!eN f x&&!eT f x&&(decide (x.num=0)||nt x.op)
def cK (f:ac) (t:fB):Bool:=if t.kind=0 then iR f t.to0&&decide (t.to1=0)&&decide (t.var=0) else if t.kind=1 then cA f t.var&&iR f t.to0&&iR f t.to1 else
 if t.kind=2 then cA f t.var&&decide (t.to0=0∧t.to1=0) else false
theorem Cz (a b c d:Int) (w:World):(Op.equalIn 10000 46 (.agg [.int .i64 a,.int .i64 b].toArray) (.agg [.int .i64 c,.int .i64 d].toArray)).run prog w=.ok (decide (a=c∧b=d)) w:=F0 a b c d w 9998
theorem zR (f:ac) (x:bg) (hx:ow x.args):aF prog E 84 [.agg (b9 f),.agg (d8 x)] (.bool (bC f x)):=by
 have hl:=hx.lt
 refine zk func84 Z (by decide) Z<|ae<|zy (cs:=_) Z Z Z<|zy (cs:=_) Z Z Z<|ad Z<|z6<|ae<|aj jo Z Zi Z Z<|aw Zm Z<|zg (nz _) Z<|z7 (vX Z)<|z7 (r8 Z Z)<|z7 (C9 Z Z)<|aq Z<|ad Z<|z6<|ze<|zj<|ze<|zw (fun j=>false) (by kernel_rfl) Z (zn (.rest _))<|ao 0 Z (eh jo Z Zi Z Z)<|ao 1 Z (gy Zm Z)<|aL 2 Z<|zg (x9 _) Z<|z6<|ao 3 Z (Gv.eqlT Z Z)<|ao 4 Z (EK Z)<|bt.case (s:=18) Z (fun c1=>?_) (fun c1=>?_)
 ·refine fm 5 Z Z Z c1<|fm 6 Z Z Z c1<|fm 7 Z Z Z c1<|fm 8 Z Z Z c1<|fm 9 Z Z Z c1<|fm 10 Z Z Z c1<|fm 11 Z Z Z c1<|fm 12 Z Z Z c1<|ao 13 Z (Fh Z c1 Z)<|ao 14 Z (EK Z)<|fm 15 Z Z Z Z<|fm 16 Z Z Z Z<|fm 17 Z Z Z Z<|fm 18 Z Z Z Z<|fm 19 Z Z Z Z<|ao 20 Z (Fh Z Z Z)<|ao 21 Z (sA Z)<|bO<|yq Z Z<|ae<|ad Z<|z6<|zh<|zm (x:=.bool _) Z ?_
  exact jb (by simp_all[bC,eN,eT,Int.ofNat_inj]<;>grind)
 ·refine ir 5 Z Z Z c1 (eh jo Z jr Z Z)<|ir 6 Z Z Z c1 (lA jv Z)<|ir 7 Z Z Z c1 (Gv.lenM jh Z)<|ir 8 Z Z Z c1 (eh jo Z Zi Z Z)<|ir 9 Z Z Z c1 (gy Zm Z)<|aL 10 Z<|za Z Z c1<|zg (ny _) Z<|z6<|ir 11 Z Z Z c1 (Gv.lenM underlying149 Z)<|ir 12 Z Z Z c1 (yw Z Z)<|ao 13 Z (C8 Z c1 Z)<|ao 14 Z (EK Z)<|bt.case (s:=28) Z (fun c2=>?_) (fun c2=>?_)
  ·refine fm 15 Z Z Z c2<|fm 16 Z Z Z c2<|fm 17 Z Z Z c2<|fm 18 Z Z Z c2<|fm 19 Z Z Z c2<|ao 20 Z (Fh Z c2 Z)<|ao 21 Z (sA Z)<|bO<|yq Z Z<|ae<|ad Z<|z6<|zh<|zm (x:=.bool _) Z ?_
   exact jb (by simp_all[bC,eN,eT,Int.ofNat_inj]<;>grind)
  ·refine ir 15 Z Z Z c2 (yl jx js Z Z)<|ir 16 Z Z Z c2 (eh jo Z jr Z Z)<|ir 17 Z Z Z c2 (lA jv Z)<|aL 18 Z<|za Z Z c2<|zg (px _ _ (by omega)) Z<|z6<|ir 19 Z Z Z c2 (yo Z)<|ao 20 Z (C8 Z c2 Z)<|ao 21 Z (sA Z)<|bO<|zz Z (fun c3=>?_) (fun c3=>?_)
   ·refine ae<|ad Z<|z6<|zh<|zm (x:=.bool _) Z ?_
    exact jb (by simp_all[bC,eN,eT,Int.ofNat_inj]<;>grind)
   ·refine ae<|ay Z<|ay Z<|zx (s:=37) Z (fun c4=>?_) (fun c4=>?_)
    ·refine za Z Z c4<|ab jx js Z Z<|za Z Z c4<|aj jo Z jm Z Z<|za Z Z c4<|aw jq Z<|za Z Z c4<|zg (iS _ _) Z<|za Z Z c4<|z7 (yo Z)<|aM Z c4 Z<|ay Z<|zx (s:=44) Z (fun c5=>?_) (fun c5=>?_)
     ·refine z8 Z Z c5<|z8 Z Z c5<|z8 Z Z c5<|ai.guardUd Z Z<|ai.guardUd Z Z<|ai.guardUd Z Z<|z8 Z Z c5<|aM Z c5 Z<|ad Z<|z6<|yq Z Z<|ae<|ad Z<|z6<|zh<|zm (x:=.bool _) Z ?_
      exact jb (by simp_all[bC,eN,eT,Int.ofNat_inj]<;>grind)
     ·refine za Z Z c5<|ay Z<|za Z Z c5<|z7 (yo Z)<|za Z Z c5<|ay Z<|zx (s:=47) Z (fun c6=>?_) (fun c6=>?_)
      ·refine za Z Z c6<|aj jo Z jm Z Z<|za Z Z c6<|aw jq Z<|za Z Z c6<|z7 (yw Z Z)<|za Z Z c5<|aM Z c6 Z<|aD Z c5 Z<|ad Z<|z6<|zz Z (fun c7=>?_) (fun c7=>?_)
       ·refine ae<|ad Z<|z6<|zh<|zm (x:=.bool _) Z ?_
        exact jb (by simp_all[bC,eN,eT,Int.ofNat_inj]<;>grind)
       ·refine zi<|ae<|aj jo Z jp Z Z<|aw ju Z<|ak Z Z<|ay Z<|zx (s:=56) Z (fun c8=>?_) (fun c8=>?_)
        ·refine z8 Z Z c8<|z8 Z Z c8<|z8 Z Z c8<|aM Z c8 Z<|ad Z<|z6<|zh<|zm (x:=.bool _) Z ?_
         exact jb (by simp_all[bC,eN,eT,Int.ofNat_inj]<;>grind)
        ·refine za Z Z c8<|aj jo Z Zi Z Z<|za Z Z c8<|aw Zm Z<|za Z Z c8<|zg (fg _) Z<|aD Z c8 Z<|ad Z<|z6<|zh<|zm (x:=.bool _) Z ?_
         exact jb (by simp_all[bC,eN,eT,Int.ofNat_inj]<;>grind)
      ·refine z8 Z Z c6<|z8 Z Z c6<|z8 Z Z c6<|za Z Z c5<|aD Z c6 Z<|aD Z c5 Z<|ad Z<|z6<|yn Z Z<|zi<|ae<|aj jo Z jp Z Z<|aw ju Z<|ak Z Z<|ay Z<|zx (s:=56) Z (fun c9=>?_) (fun c9=>?_)
       ·refine z8 Z Z c9<|z8 Z Z c9<|z8 Z Z c9<|aM Z c9 Z<|ad Z<|z6<|zh<|zm (x:=.bool _) Z ?_
        exact jb (by simp_all[bC,eN,eT,Int.ofNat_inj]<;>grind)
       ·refine za Z Z c9<|aj jo Z Zi Z Z<|za Z Z c9<|aw Zm Z<|za Z Z c9<|zg (fg _) Z<|aD Z c9 Z<|ad Z<|z6<|zh<|zm (x:=.bool _) Z ?_
        exact jb (by simp_all[bC,eN,eT,Int.ofNat_inj]<;>grind)
    ·refine z8 Z Z c4<|z8 Z Z c4<|z8 Z Z c4<|z8 Z Z c4<|z8 Z Z c4<|aD Z c4 Z<|ay Z<|za Z Z Z<|ay Z<|za Z Z Z<|z7 (yo Z)<|za Z Z Z<|ay Z<|zx (s:=47) Z (fun c10=>?_) (fun c10=>?_)
     ·refine za Z Z c10<|aj jo Z jm Z Z<|za Z Z c10<|aw jq Z<|za Z Z c10<|z7 (yw Z Z)<|za Z Z Z<|aM Z c10 Z<|aD Z Z Z<|ad Z<|z6<|zz Z (fun c11=>?_) (fun c11=>?_)
      ·refine ae<|ad Z<|z6<|zh<|zm (x:=.bool _) Z ?_
       exact jb (by simp_all[bC,eN,eT,Int.ofNat_inj]<;>grind)
      ·refine zi<|ae<|aj jo Z jp Z Z<|aw ju Z<|ak Z Z<|ay Z<|zx (s:=56) Z (fun c12=>?_) (fun c12=>?_)
       ·refine z8 Z Z c12<|z8 Z Z c12<|z8 Z Z c12<|aM Z c12 Z<|ad Z<|z6<|zh<|zm (x:=.bool _) Z ?_
        exact jb (by simp_all[bC,eN,eT,Int.ofNat_inj]<;>grind)
       ·refine za Z Z c12<|aj jo Z Zi Z Z<|za Z Z c12<|aw Zm Z<|za Z Z c12<|zg (fg _) Z<|aD Z c12 Z<|ad Z<|z6<|zh<|zm (x:=.bool _) Z ?_
        exact jb (by simp_all[bC,eN,eT,Int.ofNat_inj]<;>grind)
     ·refine z8 Z Z c10<|z8 Z Z c10<|z8 Z Z c10<|za Z Z Z<|aD Z c10 Z<|aD Z Z Z<|ad Z<|z6<|yn Z Z<|zi<|ae<|aj jo Z jp Z Z<|aw ju Z<|ak Z Z<|ay Z<|zx (s:=56) Z (fun c13=>?_) (fun c13=>?_)
      ·refine z8 Z Z c13<|z8 Z Z c13<|z8 Z Z c13<|aM Z c13 Z<|ad Z<|z6<|zh<|zm (x:=.bool _) Z ?_
       exact jb (by simp_all[bC,eN,eT,Int.ofNat_inj]<;>grind)
      ·refine za Z Z c13<|aj jo Z Zi Z Z<|za Z Z c13<|aw Zm Z<|za Z Z c13<|zg (fg _) Z<|aD Z c13 Z<|ad Z<|z6<|zh<|zm (x:=.bool _) Z ?_
       exact jb (by simp_all[bC,eN,eT,Int.ofNat_inj]<;>grind)
theorem zS (f:ac) (t:fB):aF prog E 85 [.agg (b9 f),.agg (qG t)] (.bool (cK f t)):=by
 refine zk func85 Z (by decide) Z<|ae<|zy (cs:=_) Z Z Z<|zy (cs:=_) Z Z Z<|ad Z<|z6<|ze<|ae<|aj Z0 Z sizeOf45 Z Z<|aw isAgg45 Z<|z6<|zj<|ae<|ak Z Z<|ad Z<|z6<|zz Z (fun c14=>?_) (fun c14=>?_)
 ·refine ae<|ab jx js Z Z<|aj Z0 Z Zs Z Z<|z7 (Gv.idxAF (j:=0) Zb jm Z Z Z (by decide) Z)<|aw jq Z<|zg (mP _ _) Z<|ay Z<|zx (s:=14) Z (fun c15=>?_) (fun c15=>?_)
  ·refine za Z Z c15<|aj Z0 Z Zs Z Z<|za Z Z c15<|z7 (Gv.idxAF (j:=1) Zb jm Z Z Z (by decide) Z)<|za Z Z c15<|aw jq Z<|za Z Z c15<|ak Z Z<|aM Z c15 Z<|ay Z<|zx (s:=20) Z (fun c16=>?_) (fun c16=>?_)
   ·refine za Z Z c16<|aj Z0 Z jm Z Z<|za Z Z c16<|aw jq Z<|za Z Z c16<|ak Z Z<|aM Z c16 Z<|ad Z<|z6<|zh<|zm (x:=.bool _) Z ?_
    exact jb (by simp_all[cK]<;>grind)
   ·refine z8 Z Z c16<|z8 Z Z c16<|z8 Z Z c16<|aD Z c16 Z<|ad Z<|z6<|zh<|zm (x:=.bool _) Z ?_
    exact jb (by simp_all[cK]<;>grind)
  ·refine z8 Z Z c15<|z8 Z Z c15<|z8 Z Z c15<|z8 Z Z c15<|aD Z c15 Z<|ay Z<|z8 Z Z Z<|z8 Z Z Z<|z8 Z Z Z<|aD Z Z Z<|ad Z<|z6<|zh<|zm (x:=.bool _) Z ?_
   exact jb (by simp_all[cK]<;>grind)
 ·refine ae<|ak Z Z<|ad Z<|z6<|zz Z (fun c17=>?_) (fun c17=>?_)
  ·refine ae<|ab jx js Z Z<|aj Z0 Z jm Z Z<|aw jq Z<|zg (iS _ _) Z<|ay Z<|zx (s:=31) Z (fun c18=>?_) (fun c18=>?_)
   ·refine za Z Z c18<|ab jx js Z Z<|za Z Z c18<|aj Z0 Z Zs Z Z<|za Z Z c18<|z7 (Gv.idxAF (j:=0) Zb jm Z Z Z (by decide) Z)<|za Z Z c18<|aw jq Z<|za Z Z c18<|zg (mP _ _) Z<|aM Z c18 Z<|ay Z<|zx (s:=38) Z (fun c19=>?_) (fun c19=>?_)
    ·refine za Z Z c19<|ab jx js Z Z<|za Z Z c19<|aj Z0 Z Zs Z Z<|za Z Z c19<|z7 (Gv.idxAF (j:=1) Zb jm Z Z Z (by decide) Z)<|za Z Z c19<|aw jq Z<|za Z Z c19<|zg (mP _ _) Z<|aM Z c19 Z<|ad Z<|z6<|zh<|zm (x:=.bool _) Z ?_
     exact jb (by simp_all[cK]<;>grind)
    ·refine z8 Z Z c19<|z8 Z Z c19<|z8 Z Z c19<|z8 Z Z c19<|z8 Z Z c19<|aD Z c19 Z<|ad Z<|z6<|zh<|zm (x:=.bool _) Z ?_
     exact jb (by simp_all[cK]<;>grind)
   ·refine z8 Z Z c18<|z8 Z Z c18<|z8 Z Z c18<|z8 Z Z c18<|z8 Z Z c18<|aD Z c18 Z<|ay Z<|z8 Z Z Z<|z8 Z Z Z<|z8 Z Z Z<|z8 Z Z Z<|z8 Z Z Z<|aD Z Z Z<|ad Z<|z6<|zh<|zm (x:=.bool _) Z ?_
    exact jb (by simp_all[cK]<;>grind)
  ·refine ae<|ak Z Z<|ad Z<|z6<|zz Z (fun c20=>?_) (fun c20=>?_)
   ·refine ae<|ab jx js Z Z<|aj Z0 Z jm Z Z<|aw jq Z<|zg (iS _ _) Z<|ay Z<|zx (s:=51) Z (fun c21=>?_) (fun c21=>?_)
    ·refine za Z Z c21<|aj Z0 Z Zs Z Z<|za Z Z c21<|ab isAgg46 Zs Z Z<|za Z Z c21<|z7 (Gv.buildA (cps:=[]) (rs:=[.int .i64 0,.int .i64 0]) Ih Z Z Z)<|za Z Z c21<|z7 (Gv.eqlP (xs:=[.int _ _,.int _ _]) (ys:=[.int _ _,.int _ _]) (by kernel_rfl) Z Z (fun w=>Cz _ _ _ _ w))<|aM Z c21 Z<|ad Z<|z6<|zh<|zm (x:=.bool _) Z ?_
     exact jb (by simp_all[cK]<;>grind)
    ·refine z8 Z Z c21<|z8 Z Z c21<|z8 Z Z c21<|z8 Z Z c21<|aD Z c21 Z<|ad Z<|z6<|zh<|zm (x:=.bool _) Z ?_
     exact jb (by simp_all[cK]<;>grind)
   ·refine zi<|ae<|ad Z<|z6<|zh<|zm (x:=.bool _) Z ?_
    exact jb (by simp_all[cK]<;>grind)
def pc (s:ByteArray):List AV:=[.str s]
def d7 (E:World):Prop:=Lib.TabIs prog E "internal/strconv.uint64pow10" .u64 Lib.pow10Tab
theorem F9 {P:Program} {name:String} {k:IntKind} {zs:List Int} {I:aC} {O:List (Nat × Obj)} {w:World} (h:Lib.TabIs P E name k zs) (hS:SL I O E w):Lib.TabIs P w name k zs:=by
 unfold Lib.TabIs World.var? at *
 cases hg:P.globalNamed name with
 |none=>rw[hg] at h;cases h
 |some g=>
  rw[hg] at h
  simp only[Option.bind_some] at h ⊢
  cases hh:E.heap[g]? with
  |none=>rw[hh] at h;cases h
  |some o=>rw[hh] at h;rw[hS.pers _ _ (hS.base _ _ hh)];exact h
end
section
open Go.Proofs.Tryz
open Go.Proofs Go.Lib Go.Shelf Go.RowKit
set_option maxRecDepth 20000
variable {E:World}
def aE (E:World):Prop:=Lib.TabIs prog E "unicode.properties" .u8 Lib.propertiesTab∧RVar 4 letterT E
theorem mj (c:Int) (h1:-2147483648≤c) (h2:c≤2147483647) (hL:aE E):aF prog E 166 [.int .i32 c] (.bool (isLetterU c)):=
 aF.ofBelow (vs:=[.int .i32 c]) (r:=.bool (isLetterU c)) func166 rfl (by decide) rfl fun w hw=>Tryz.unicode_IsLetter_all c w h1 h2 (TabIs_below (g:=3) (by kernel_rfl) hL.1 hw) (RVar_below hL.2 hw)
theorem dO (s:ByteArray) (p:Nat):1≤(Utf8.decode s p).2∧(Utf8.decode s p).1≤2097151:=by
 have h256:∀k,(s.get! k).toNat<256:=fun k=>(s.get! k).toNat_lt
 unfold Utf8.decode
 dsimp only
 constructor
 ·repeat' split
  all_goals simp
 ·have h0:=h256 (p+0)
  have h1:=h256 (p+1)
  have h2:=h256 (p+2)
  have h3:=h256 (p+3)
  repeat' split
  all_goals (simp only[Utf8.runeError];omega)
def oA (c:Int) (n:Nat):Bool:=(isLetterU c&&!decide (c=65533))||(!decide ((n:Int)=0)&&((decide (48≤c)&&decide (c≤57))||decide (c=46)||decide (c=95)))
def fu (s:ByteArray) (p n:Nat):Bool:=
 if h:p<s.size then (if oA (Utf8.decode s p).1 n then fu s (p+(Utf8.decode s p).2) (n+1) else false) else decide ((1:Int)≤n)&&decide ((n:Int)≤16)
termination_by s.size - p
decreasing_by have:=(dO s p).1;omega
def tw (s:ByteArray):Bool:=fu s 0 0
def Hw (l:List UInt8):ByteArray:=⟨l.toArray⟩
end
section
open Go.Proofs.Tryz
open Go.Proofs Go.Lib Go.Shelf Go.RowKit
set_option maxRecDepth 20000
variable {E:World}
def CA (f:ac) (p:dY):Prop:=cA f p.dst=true∧p.args.length=p.from_.length∧1≤p.args.length∧p.args.all (cA f)=true∧p.from_.all (iR f)=true
def CB (x:bg):Bool:=decide ((cE x.op).1=⟨#[99,111,110,115,116]⟩)||decide ((cE x.op).1=⟨#[112,105]⟩)
def Ga (f:ac) (x:bg):Bool:=!decide ((x.args.length:Int)=((cE x.op).2.1.size:Int))||(!(decide ((cE x.op).2.2=⟨#[]⟩) == decide (x.dst=-1))||((!decide (x.dst=-1)&&!cA f x.dst)||(!decide (x.num=0)&&!CB x)))
def pY (f:ac) (x:bg):Prop:=0≤x.op∧x.op≤26∧Ga f x=false∧x.args.all (cA f)=true
def CC (f:ac) (b:aW):Prop:=(∀p∈b.phis,CA f p)∧(∀x∈b.insts,pY f x)∧cK f b.term=true
def oB (l:List aW):Nat:=(l.map fun b=>b.phis.length+b.insts.length).sum
def Gb (f:ac):Bool:=decide ((512:Int)<f.vars.length)||(decide ((8:Int)<f.params.length)||(decide ((f.vars.length:Int)<f.params.length)||(decide ((f.blocks.length:Int)<1)||decide ((64:Int)<f.blocks.length))))
def Gc (f:ac) (i:Nat) (v:AO):Prop:=tw v.name=true∧0≤v.ty∧v.ty≤2∧∀s∈(f.vars.take i).map (·.name),s≠v.name
def Gd (f:ac) (i:Nat) (b:aW):Prop:=tw b.name=true∧∀s∈(f.blocks.take i).map (·.name),s≠b.name
def cf (f:ac):Prop:=Gb f=false∧(∀i (h:i<f.params.length),f.params[i]=(i:Int))∧(∀i (h:i<f.vars.length),Gc f i f.vars[i])∧(∀i (h:i<f.blocks.length),Gd f i f.blocks[i])∧oB f.blocks≤1024∧∀b∈f.blocks,CC f b
instance (f:ac) (p:dY):Decidable (CA f p):=by unfold CA;infer_instance
instance (f:ac) (x:bg):Decidable (pY f x):=by unfold pY;infer_instance
instance (f:ac) (b:aW):Decidable (CC f b):=by unfold CC;infer_instance
instance (f:ac) (i:Nat) (v:AO):Decidable (Gc f i v):=by unfold Gc;infer_instance
instance (f:ac) (i:Nat) (b:aW):Decidable (Gd f i b):=by unfold Gd;infer_instance
instance (f:ac):Decidable (cf f):=by unfold cf;infer_instance
theorem vm (l:List aW) (k:Nat) (h:k<l.length):oB (l.take (k+1))=oB (l.take k)+(l[k].phis.length+l[k].insts.length):=by
 unfold oB;rw[qk h,List.map_append,List.sum_append];simp only[List.map_cons,List.map_nil,List.sum_cons,List.sum_nil,Nat.add_zero]
theorem fv {α:Type} {p:α→Bool} {l:List α} {k:Nat} (h:k<l.length) (h1:(l.take k).all p=true) (h2:p l[k]=true):(l.take (k+1)).all p=true:=by
 rw[qk h,List.all_append,h1];simp[h2]
theorem fj {α:Type} {p:α→Bool} {l:List α} {k:Nat} (h:k<l.length) (h2:p l[k]=false):¬l.all p=true:=fun h3=>by
 have:=List.all_eq_true.1 h3 _ (qn h);rw[h2] at this;cases this
def rL (f:ac):Prop:=(∀v∈f.vars,v.name.size≤140737488355328)∧∀b∈f.blocks,b.name.size≤140737488355328
end
section
open Go.Proofs.Tryz
open Go.Proofs Go.Lib Go.Shelf Go.RowKit
theorem Ii:eD prog 27 #[(0,1),(1,1),(2,1)] [.raw (.slice none 0 0),.raw (.slice none 0 0),.raw (.slice none 0 0)]:=⟨_,_,jt,zeroValue27,fun w=>by kernel_rfl,rfl⟩
theorem Ij:eD prog 51 #[(0,1),(1,1),(2,1),(3,4)] [.str ⟨#[]⟩,.raw (.slice none 0 0),.raw (.slice none 0 0),.int .i64 0,.int .i64 0,.int .i64 0,.int .i64 0]:=⟨_,_,jy,Zf,fun w=>by kernel_rfl,rfl⟩
theorem Ge:dt prog 25 51 1 7 [.str ⟨#[]⟩,.raw (.slice none 0 0),.raw (.slice none 0 0),.int .i64 0,.int .i64 0,.int .i64 0,.int .i64 0]:=⟨_,jw,Z2,Zf,by decide,by decide,by kernel_rfl⟩
set_option maxRecDepth 20000
variable {E:World}
def lp (b:aW):Prop:=b.name.size≤1000∧b.phis.length≤1000∧b.insts.length≤1000∧(∀p∈b.phis,p.args.length≤1000∧p.from_.length≤1000)∧∀x∈b.insts,x.args.length≤1000
def small (f:ac):Prop:=f.vars.length≤1000∧f.params.length≤1000∧f.blocks.length≤1000∧(∀v∈f.vars,v.name.size≤1000)∧∀b∈f.blocks,lp b
theorem small.ok {f:ac} (h:small f):Cn f:=by
 obtain ⟨h1,h2,h3,h4,h5⟩:=h
 refine ⟨by unfold ow;omega,by unfold ow;omega,by unfold ow;omega,fun b hb=>?_⟩
 obtain ⟨g1,g2,g3,g4,g5⟩:=h5 b hb
 exact ⟨by unfold ow;omega,by unfold ow;omega,fun p hp=>⟨by have:=g4 p hp;unfold ow;omega,by have:=g4 p hp;unfold ow;omega⟩,fun x hx=>by have:=g5 x hx;unfold ow;omega⟩
theorem small.names {f:ac} (h:small f):rL f:=⟨fun v hv=>by have:=h.2.2.2.1 v hv;omega,fun b hb=>by have:=(h.2.2.2.2 b hb).1;omega⟩
theorem CD {α:Type} {enc:α→List AV} (h:∀x,(enc x).all AV.cell=true) (xs:List α):(xs.map enc).flatten.all AV.cell=true:=by
 induction xs with
 |nil=>rfl
 |cons x xs ih=>simp only[List.map_cons,List.flatten_cons,List.all_append,h,ih,Bool.and_self]
end
section
open Go.Proofs.Tryz
open Go.Proofs Go.Lib Go.Shelf Go.RowKit
set_option maxRecDepth 20000
variable {E:World}
end
section
open Go.Proofs.Tryz
open Go.Proofs Go.Lib Go.Shelf Go.RowKit
set_option maxRecDepth 20000
variable {E:World}
end
section
open Go.Proofs.Tryz
open Go.Proofs Go.Lib Go.Shelf Go.RowKit
set_option maxRecDepth 20000
variable {E:World}
end
section
open Go.Proofs.Tryz
open Go.Proofs Go.Lib Go.Shelf Go.RowKit
set_option maxRecDepth 20000
variable {E:World}
theorem Ec:∀r∈ip,r.1≠⟨#[]⟩:=by decide
theorem Ed {op:Int} (h:0≤op∧op≤26):(cE op).1≠⟨#[]⟩:=by
 have hm:cE op∈ip:=by
  unfold cE
  rw[if_pos h.1,qj (show _<27 by omega)]
  exact qn _
 exact Ec _ hm
theorem CE:∀j:Nat,j<27→nt (j:Int)=(decide ((cE (j:Int)).1=⟨#[99,111,110,115,116]⟩)||decide ((cE (j:Int)).1=⟨#[112,105]⟩)):=by decide
theorem pZ {x:bg} (h:0≤x.op∧x.op≤26):CB x=nt x.op:=by
 have:=CE x.op.toNat (by omega)
 rw[Int.toNat_of_nonneg h.1] at this
 unfold CB;exact this.symm
theorem p5 (op:Int):(bu op).length=(cE op).2.1.size:=by unfold bu;rw[qq];exact Array.length_toList
theorem zT (b:ByteArray):b.data.toList.isEmpty=decide (b=⟨#[]⟩):=by
 obtain ⟨⟨l⟩⟩:=b
 cases l<;>simp
theorem p6 (op:Int):eX op=!decide ((cE op).2.2=⟨#[]⟩):=by unfold eX;rw[zT]
theorem zU {op:Int} (h:¬(0≤op∧op≤26)):cE op=(⟨#[]⟩,⟨#[]⟩,⟨#[]⟩):=sq (by unfold o7;simp;omega)
theorem oC (f:ac) (x:bg):bC f x=true↔pY f x:=by
 by_cases h:0≤x.op∧x.op≤26
 ·have hw:=Ed h
  have hn:=pZ h
  unfold bC eN eT pY Ga
  rw[p5,p6,hn]
  by_cases h1:x.args.length=(cE x.op).2.1.size<;>by_cases h2:(cE x.op).2.2=⟨#[]⟩<;>by_cases h3:x.dst=-1<;>by_cases h4:x.num=0<;>by_cases h5:x.args.all (cA f)=true<;>simp_all[Int.ofNat_inj]<;>(try (unfold cA;simp))<;>(try grind)
 ·constructor
  ·intro h2
   have:=zU h
   unfold bC eN at h2
   rw[this] at h2;simp at h2
  ·intro h2;exact absurd ⟨h2.1,h2.2.1⟩ h
def only (f:ac) (x:bg):ac:={ f with blocks:=[⟨⟨#[111,110,108,121]⟩,[],[x],⟨0,0,0,0⟩⟩] }
end
section
open Go.Proofs.Tryz
open Go.Proofs Go.Lib Go.Shelf Go.RowKit
set_option maxRecDepth 20000
variable {E:World}
def dv (c:Int):Bool:=isLetterU c&&!decide (c=65533)
def oD (c:Int):Bool:=decide (48≤c)&&decide (c≤57)
def dI (c:Int):Bool:=dv c||(oD c||(decide (c=46)||decide (c=95)))
theorem lq (c:Int) (h1:-2147483648≤c) (h2:c≤2147483647) (hL:aE E):aF prog E 155 [.int .i32 c] (.bool (dv c)):=by
 refine zk func155 Z (by decide) Z<|ae<|ad Z<|z6<|ae<|aa Z<|zg (mj c h1 h2 hL) Z<|ay Z<|zx (s:=5) Z (fun c1=>?_) (fun c1=>?_)
 ·refine za Z Z c1<|aa Z<|za Z Z c1<|z7 (yw Z Z)<|aM Z c1 Z<|ad Z<|z6<|zh<|zm (x:=.bool _) Z ?_
  exact jb (by simp_all[dv])
 ·refine z8 Z Z c1<|z8 Z Z c1<|aD Z c1 Z<|ad Z<|z6<|zh<|zm (x:=.bool _) Z ?_
  exact jb (by simp_all[dv])
theorem tx (c:Int):aF prog E 167 [.int .i32 c] (.bool (oD c)):=by
 refine zk func167 Z (by decide) Z<|ae<|ad Z<|z6<|ae<|aa Z<|z7 (qa Z Z)<|ay Z<|zx (s:=5) Z (fun c2=>?_) (fun c2=>?_)
 ·refine za Z Z c2<|aa Z<|za Z Z c2<|z7 (Gv.leq Z Z)<|aM Z c2 Z<|ad Z<|z6<|zh<|zm (x:=.bool _) Z ?_
  exact jb (by simp_all[oD]<;>(intros;omega))
 ·refine z8 Z Z c2<|z8 Z Z c2<|aD Z c2 Z<|ad Z<|z6<|zh<|zm (x:=.bool _) Z ?_
  exact jb (by simp_all[oD]<;>(intros;omega))
theorem ml (c:Int) (h1:-2147483648≤c) (h2:c≤2147483647) (hL:aE E):aF prog E 156 [.int .i32 c] (.bool (dI c)):=by
 refine zk func156 Z (by decide) Z<|ae<|ad Z<|z6<|ae<|aa Z<|zg (lq c h1 h2 hL) Z<|ay Z<|zx (s:=5) Z (fun c3=>?_) (fun c3=>?_)
 ·refine z8 Z Z c3<|z8 Z Z c3<|aM Z c3 Z<|ay Z<|z8 Z Z Z<|z8 Z Z Z<|aM Z Z Z<|ay Z<|z8 Z Z Z<|z8 Z Z Z<|aM Z Z Z<|ad Z<|z6<|zh<|zm (x:=.bool _) Z ?_
  exact jb (by simp_all[dI])
 ·refine za Z Z c3<|aa Z<|za Z Z c3<|zg (tx _) Z<|aD Z c3 Z<|ay Z<|zx (s:=9) Z (fun c4=>?_) (fun c4=>?_)
  ·refine z8 Z Z c4<|z8 Z Z c4<|aM Z c4 Z<|ay Z<|z8 Z Z Z<|z8 Z Z Z<|aM Z Z Z<|ad Z<|z6<|zh<|zm (x:=.bool _) Z ?_
   exact jb (by simp_all[dI])
  ·refine za Z Z c4<|aa Z<|za Z Z c4<|ak Z Z<|aD Z c4 Z<|ay Z<|zx (s:=13) Z (fun c5=>?_) (fun c5=>?_)
   ·refine z8 Z Z c5<|z8 Z Z c5<|aM Z c5 Z<|ad Z<|z6<|zh<|zm (x:=.bool _) Z ?_
    exact jb (by simp_all[dI])
   ·refine za Z Z c5<|aa Z<|za Z Z c5<|ak Z Z<|aD Z c5 Z<|ad Z<|z6<|zh<|zm (x:=.bool _) Z ?_
    exact jb (by simp_all[dI])
def bq (s:ByteArray) (p:Nat):List Int:=if h:p<s.size then ((Utf8.decode s p).1:Int)::bq s (p+(Utf8.decode s p).2) else[]
termination_by s.size - p
decreasing_by have:=(dO s p).1;omega
theorem dP {s:ByteArray} {p:Nat} (h:p<s.size):bq s p=((Utf8.decode s p).1:Int)::bq s (p+(Utf8.decode s p).2):=by rw[bq,dif_pos h]
theorem cg {s:ByteArray} {p:Nat} (h:¬p<s.size):bq s p=[]:=by rw[bq,dif_neg h]
theorem pd (s:ByteArray):∀k p,s.size - p≤k→(bq s p).length≤k:=by
 intro k
 induction k with
 |zero=>intro p h;rw[cg (by omega)];simp
 |succ k ih=>
  intro p h
  by_cases hp:p<s.size
  ·rw[dP hp]
   have:=(dO s p).1
   have:=ih (p+(Utf8.decode s p).2) (by omega)
   simp;omega
  ·rw[cg hp];simp
theorem vn (s:ByteArray) (hs:s.size≤140737488355328):aF prog E 157 [.str s] (.int .i64 (bq s 0).length):=by
 have h0:=pd s s.size 0 (by omega)
 refine zk func157 Z (by decide) Z<|ae<|aq Z<|z6<|ae<|aq Z<|z6<|ze<|ae<|z7 (yb (v:=.str _) Z)<|ai.rangeT Y5 Z<|fun i5=>z6<|zj<|ya (γ:=Nat × Nat) [5] (fun g=>[(3,.int .i64 g.2)]) (fun g=>[(i5,.iter s g.1)]) (fun g=>g.2+(bq s g.1).length=(bq s 0).length) (fun g=>s.size - g.1) (0,0) aT aJ (by simp) ?_
 rintro ⟨p,n⟩ hp
 try dsimp only at *
 by_cases hlt:p<s.size
 ·have hd:=(dO s p).1
  rw[dP hlt] at hp
  simp only[List.length_cons] at hp
  refine ae<|ai.nextT Z .head hlt<|z7 (C9 Z Z)<|z6<|ze<|yq Z Z<|zi<|zj<|bD<|aa Z<|aQ Z Z<|aq Z<|z6 ?_
  exact ⟨(p+(Utf8.decode s p).2,n+1),aT,aT,aJ,by dsimp only;omega,by dsimp only;omega⟩
 ·rw[cg hlt] at hp
  simp only[List.length_nil] at hp
  refine ae<|ai.nextTover Z .head hlt<|z7 (C9 Z Z)<|z6<|ze<|yn Z Z<|y8<|ae<|aa Z<|aq Z<|z6<|zh<|zm (x:=.int _ _) Z ?_
  exact congrArg (AV.int .i64) (by omega)
def oE (s:ByteArray) (p:Nat):Bool:=if h:p<s.size then (if (decide (p=0)&&!dv ((Utf8.decode s p).1:Int))||!dI ((Utf8.decode s p).1:Int) then false else oE s (p+(Utf8.decode s p).2)) else (decide (¬s=⟨#[]⟩)&&decide (((bq s 0).length:Int)≤16))
termination_by s.size - p
decreasing_by have:=(dO s p).1;omega
def dJ (s:ByteArray):Bool:=oE s 0
theorem vp (s:ByteArray) (hs:s.size≤140737488355328) (hL:aE E):aF prog E 136 [.str s] (.bool (dJ s)):=by
 refine zk func136 Z (by decide) Z<|ae<|ad Z<|z6<|ze<|ae<|z7 (yb (v:=.str _) Z)<|ai.rangeT Y5 Z<|fun i6=>z6<|zj<|ya (γ:=Nat) [0,6] (fun p=>[]) (fun p=>[(i6,.iter s p)]) (fun p=>oE s p=dJ s) (fun p=>s.size - p) 0 trivial aJ (Z) ?_
 rintro p hp
 by_cases hlt:p<s.size
 ·obtain ⟨hd1,hd2⟩:=dO s p
  have hstep:=hp
  rw[oE,dif_pos hlt] at hstep
  refine ae<|ai.nextT Z .head hlt<|z7 (C9 Z Z)<|z6<|ze<|yq Z Z<|zi<|zj<|ae<|z7 (r8 Z Z)<|z7 (r8 Z Z)<|aq Z<|aq Z<|z6<|ae<|aa Z<|ak Z Z<|ay Z<|zx (s:=13) Z (fun c6=>?_) (fun c6=>?_)
  ·refine za Z Z c6<|aa Z<|za Z Z c6<|zg (lq _ (by omega) (by omega) hL) Z<|za Z Z c6<|z7 (yo Z)<|aM Z c6 Z<|ay Z<|zx (s:=18) Z (fun c7=>?_) (fun c7=>?_)
   ·refine z8 Z Z c7<|z8 Z Z c7<|z8 Z Z c7<|aM Z c7 Z<|z6<|yq Z Z<|ae<|ad Z<|z6<|zh<|zm (x:=.bool _) Z ?_
    rw[if_pos (by simp_all<;>omega)] at hstep;exact jb hstep
   ·refine za Z Z c7<|aa Z<|za Z Z c7<|zg (ml _ (by omega) (by omega) hL) Z<|za Z Z c7<|z7 (yo Z)<|aD Z c7 Z<|z6<|zz Z (fun c8=>?_) (fun c8=>?_)
    ·refine ae<|ad Z<|z6<|zh<|zm (x:=.bool _) Z ?_
     rw[if_pos (by simp_all<;>omega)] at hstep;exact jb hstep
    ·refine zi ?_
     exact ⟨p+(Utf8.decode s p).2,cU,trivial,aJ,by rw[if_neg (by simp_all<;>omega)] at hstep;exact hstep,by omega⟩
  ·refine z8 Z Z c6<|z8 Z Z c6<|z8 Z Z c6<|aD Z c6 Z<|ay Z<|za Z Z Z<|aa Z<|za Z Z Z<|zg (ml _ (by omega) (by omega) hL) Z<|za Z Z Z<|z7 (yo Z)<|aD Z Z Z<|z6<|zz Z (fun c9=>?_) (fun c9=>?_)
   ·refine ae<|ad Z<|z6<|zh<|zm (x:=.bool _) Z ?_
    rw[if_pos (by simp_all<;>omega)] at hstep;exact jb hstep
   ·refine zi ?_
    exact ⟨p+(Utf8.decode s p).2,cU,trivial,aJ,by rw[if_neg (by simp_all<;>omega)] at hstep;exact hstep,by omega⟩
 ·rw[oE,dif_neg hlt] at hp
  refine ae<|ai.nextTover Z .head hlt<|z7 (C9 Z Z)<|z6<|ze<|yn Z Z<|y8<|ae<|z7 (yb (v:=.str _) Z)<|z7 (Gv.neqT Z Z)<|ay Z<|zx (s:=25) Z (fun c10=>?_) (fun c10=>?_)
  ·refine za Z Z c10<|z7 (yb (v:=.str _) Z)<|za Z Z c10<|zg (vn _ (by assumption)) Z<|za Z Z c10<|z7 (Gv.leq Z Z)<|aM Z c10 Z<|ad Z<|z6<|zh<|zm (x:=.bool _) Z ?_
   rw[←hp];exact jb (by simp_all<;>(try omega))
  ·refine z8 Z Z c10<|z8 Z Z c10<|z8 Z Z c10<|aD Z c10 Z<|ad Z<|z6<|zh<|zm (x:=.bool _) Z ?_
   rw[←hp];exact jb (by simp_all<;>(try omega))
end
section
open Go.Proofs.Tryz
open Go.Proofs Go.Lib Go.Shelf Go.RowKit
set_option maxRecDepth 20000
variable {E:World}
def gZ (t:Int):ByteArray:=if t=0 then ⟨#[105,110,116]⟩ else if t=1 then ⟨#[98,111,111,108]⟩ else if t=2 then ⟨#[97,114,114]⟩ else ⟨#[]⟩
theorem Ee (s:ByteArray):Hw s.data.toList=s:=by unfold Hw;simp
def w8:List Int→Bool
 |[]=>false
 |c::rs=>dv c&&(rs.all dI&&decide (rs.length+1≤16))
theorem rM {c:Int} (h:dv c=true):dI c=true:=by unfold dI;rw[h];rfl
theorem CF (s:ByteArray):∀(n p:Nat),s.size - p≤n→0<p→p≤s.size→oE s p=((bq s p).all dI&&decide ((bq s 0).length≤16)):=by
 intro n
 induction n with
 |zero=>
  intro p h hp hps
  have hne:¬s=⟨#[]⟩:=fun e=>by subst e;have:p≤0:=hps;omega
  rw[oE,dif_neg (by omega),cg (p:=p) (by omega)]
  simp[hne];omega
 |succ n ih=>
  intro p h hp hps
  by_cases hlt:p<s.size
  ·have hd:=(dO s p).1
   have hw:p+(Utf8.decode s p).2≤s.size:=by
    have:=decodeL_le (s.data.toList.drop p) (by intro e;have:=congrArg List.length e;rw[List.length_drop] at this;have h2:s.data.toList.length=s.size:=Array.length_toList;simp only[List.length_nil] at this;omega)
    rw[decodeL_drop,List.length_drop] at this
    have h2:s.data.toList.length=s.size:=Array.length_toList
    omega
   rw[oE,dif_pos hlt,dP hlt,List.all_cons]
   have hp0:decide (p=0)=false:=decide_eq_false (by omega)
   rw[hp0,Bool.false_and,Bool.false_or]
   cases hi:dI ((Utf8.decode s p).1:Int) with
   |false=>simp
   |true=>rw[if_neg (by simp),ih _ (by omega) (by omega) hw];simp
  ·have hne:¬s=⟨#[]⟩:=fun e=>by subst e;have:p≤0:=hps;omega
   rw[oE,dif_neg hlt,cg (p:=p) hlt]
   simp[hne];omega
theorem Ef {s:ByteArray} {p:Nat} (hlt:p<s.size):p+(Utf8.decode s p).2≤s.size:=by
 have h2:s.data.toList.length=s.size:=Array.length_toList
 have:=decodeL_le (s.data.toList.drop p) (by intro e;have:=congrArg List.length e;rw[List.length_drop] at this;simp only[List.length_nil] at this;omega)
 rw[decodeL_drop,List.length_drop] at this
 omega
theorem vq (s:ByteArray):dJ s=w8 (bq s 0):=by
 unfold dJ
 by_cases hlt:0<s.size
 ·have hd:=(dO s 0).1
  have hw:=Ef hlt
  have hr:=dP hlt
  have hl:=congrArg List.length hr
  rw[List.length_cons] at hl
  rw[oE,dif_pos hlt]
  have h2:w8 (bq s 0)=(dv ((Utf8.decode s 0).1:Int)&&((bq s (0+(Utf8.decode s 0).2)).all dI&&decide ((bq s (0+(Utf8.decode s 0).2)).length+1≤16))):=by rw[hr];rfl
  rw[h2]
  cases hc:dv ((Utf8.decode s 0).1:Int) with
  |false=>simp
  |true=>
   rw[rM hc,if_neg (by simp),CF s _ _ (Nat.le_refl _) (by omega) hw,hl];rfl
 ·rw[oE,dif_neg hlt,cg hlt]
  have:s=⟨#[]⟩:=by
   have h2:s.data.toList.length=s.size:=Array.length_toList
   have h3:s.data.toList=[]:=List.eq_nil_of_length_eq_zero (by omega)
   rw[←Ee s,h3];rfl
  simp[this,w8]
theorem w9 (k:Nat):(decide ((1:Int)≤((k+1:Nat):Int))&&decide (((k+1:Nat):Int)≤16))=(([]:List Int).all dI&&decide (k+1+([]:List Int).length≤16)):=by
 rw[decide_eq_true (by omega),Bool.true_and]
 show _=(true&&_)
 rw[Bool.true_and,decide_eq_decide]
 show ((k+1:Nat):Int)≤16↔k+1+0≤16
 omega
theorem rN (s:ByteArray):∀(n p k:Nat),s.size - p≤n→fu s p (k+1)=((bq s p).all dI&&decide (k+1+(bq s p).length≤16)):=by
 intro n
 induction n with
 |zero=>
  intro p k h
  rw[fu,dif_neg (by omega),cg (by omega)]
  exact w9 k
 |succ n ih=>
  intro p k h
  by_cases hlt:p<s.size
  ·have hd:=(dO s p).1
   rw[fu,dif_pos hlt,dP hlt,List.all_cons]
   have ho:oA ((Utf8.decode s p).1:Int) (k+1)=dI ((Utf8.decode s p).1:Int):=by
    unfold oA dI dv oD
    have:decide (((k+1:Nat):Int)=0)=false:=decide_eq_false (by omega)
    rw[this];simp[Bool.or_assoc]
   rw[ho]
   cases hi:dI ((Utf8.decode s p).1:Int) with
   |false=>simp
   |true=>rw[if_pos rfl,ih _ _ (by omega),Bool.true_and,List.length_cons];congr 2;simp;omega
  ·rw[fu,dif_neg hlt,cg hlt]
   exact w9 k
theorem Eg (s:ByteArray):tw s=w8 (bq s 0):=by
 unfold tw
 by_cases hlt:0<s.size
 ·rw[fu,dif_pos hlt,dP hlt]
  have ho:oA ((Utf8.decode s 0).1:Int) 0=dv ((Utf8.decode s 0).1:Int):=by unfold oA dv;simp
  rw[ho]
  show _=(dv ((Utf8.decode s 0).1:Int)&&_)
  cases hc:dv ((Utf8.decode s 0).1:Int) with
  |false=>simp
  |true=>rw[if_pos rfl,rN s _ _ _ (Nat.le_refl _),Bool.true_and];congr 2;simp;omega
 ·rw[fu,dif_neg hlt,cg hlt];rfl
theorem m8 (s:ByteArray):tw s=dJ s:=by rw[Eg,vq]
structure E2 (f:ac) (x:bg):Prop where
 op:0≤x.op∧x.op≤26
 len:x.args.length=(bu x.op).length
 dst:(eX x.op=false∧x.dst=-1)∨(eX x.op=true∧x.dst≠-1∧cA f x.dst=true)
 num:nt x.op=false→x.num=0
 args:∀a∈x.args,cA f a=true
theorem gl {f:ac} {x:bg} (h:pY f x):E2 f x:=by
 obtain ⟨h1,h2,h3,h4⟩:=h
 have hw:=pZ ⟨h1,h2⟩
 unfold Ga at h3
 simp only[Bool.or_eq_false_iff,Bool.not_eq_false',qv,Bool.and_eq_false_iff,beq_iff_eq] at h3
 obtain ⟨g1,g2,g3,g4⟩:=h3
 refine ⟨⟨h1,h2⟩,by rw[p5];omega,?_,fun hn=>?_,List.all_eq_true.1 h4⟩
 ·rw[p6]
  by_cases hd:x.dst=-1
  ·left
   rw[decide_eq_true hd] at g2
   exact ⟨by rw[g2];rfl,hd⟩
  ·right
   rw[decide_eq_false hd] at g2
   refine ⟨by rw[g2];rfl,hd,?_⟩
   rcases g3 with g|g
   ·exact absurd g hd
   ·exact g
 ·rcases g4 with g|g
  ·exact g
  ·rw[hw,hn] at g;cases g
theorem tz (t:Int):aF prog E 104 [.int .i64 t] (.str (gZ t)):=by
 refine zk func104 Z (by decide) Z<|ae<|z7 (y7 (v:=.str _) Z)<|z6<|ze<|ae<|aa Z<|z6<|zj<|ae<|ak Z Z<|ad Z<|z6<|zz Z (fun c1=>?_) (fun c1=>?_)
 ·refine ae<|z7 (y7 (v:=.str _) Z)<|z6<|zh<|zm (x:=.str _) Z ?_
  exact congrArg AV.str (by simp_all[gZ])
 ·refine ae<|ak Z Z<|ad Z<|z6<|zz Z (fun c2=>?_) (fun c2=>?_)
  ·refine ae<|z7 (y7 (v:=.str _) Z)<|z6<|zh<|zm (x:=.str _) Z ?_
   exact congrArg AV.str (by simp_all[gZ])
  ·refine ae<|ak Z Z<|ad Z<|z6<|zz Z (fun c3=>?_) (fun c3=>?_)
   ·refine ae<|z7 (y7 (v:=.str _) Z)<|z6<|zh<|zm (x:=.str _) Z ?_
    exact congrArg AV.str (by simp_all[gZ])
   ·refine zi<|ae<|z7 (y7 (v:=.str _) Z)<|z6<|zh<|zm (x:=.str _) Z ?_
    exact congrArg AV.str (by simp_all[gZ])
end
end Go.Proofs.YthphijnnbfjikaaGreatDoor
