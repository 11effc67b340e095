/- The document's own functions: names, the table, digits, what is the same, what has a text. No conditions but bounds. -/
import Derived.Test.YtbconpmnckokoaaGreatDoorJb
import Derived.Shelf.Small.Bits
import Derived.Shelf.Small.Wraps
import Derived.Shelf.Strconv.Itoa0
import Derived.Shelf.Strconv.Itoa1
import Derived.Shelf.LaysM
import Derived.Shelf.Strconv.Itoa2
import Derived.Shelf.Strconv.Itoa3
import Derived.Shelf.Sort.Plain
import Derived.Shelf.Unicode.Props
import Derived.Shelf.Unicode.PropsLaid
import Derived.Shelf.Bits.Mul64
import Derived.Shelf.Unicode.Is16White
import Derived.Shelf.Unicode.IsSpaceAny
import Derived.Shelf.Unicode.Is16WhiteD
import Derived.Shelf.Unicode.IsSpaceAnyD
import Derived.Shelf.Unicode.Is16Any
import Derived.Shelf.Unicode.Is32Any
import Derived.Shelf.Unicode.ExclAny
import Derived.Shelf.Unicode.PredsAny
import Derived.Shelf.Unicode.PredsPay
import Derived.Shelf.Slices.Turned
import Derived.Shelf.Slices.Reverse
import Derived.Shelf.Slices.Equal
import Derived.Ground.Names2Prog
import Derived.Shelf.Slices.Clone
import Derived.Shelf.Slices.SearchI
import Derived.Shelf.Slices.Cells
import Derived.Shelf.Slices.In.SortNone
import Derived.Shelf.Slices.Empties2
import Derived.Ground.SlgnProg
import Derived.Shelf.SlicesE.Reverse
import Derived.Shelf.SlicesE.Clone
import Derived.Test.YtbconpmnckokoaaGreatDoorChecked
import Derived.Lib.ItoaLen
import Derived.Lib.Join
import Derived.Laws.BytesArg
set_option linter.unusedVariables false
set_option linter.unusedSimpArgs false
set_option linter.unusedSectionVars false
namespace Go.Proofs.YtbconpmnckokoaaGreatDoor
section
open Go.Proofs.Tryz
open Go.Proofs
variable {E:World}
set_option maxRecDepth 20000
def jU {α:Type} (l:List α):Prop:=l.length≤140737488355328
def nu (p:dv):Prop:=jU p.args∧jU p.from_
def xL (b:aC):Prop:=jU b.phis∧jU b.insts∧(∀p∈b.phis,nu p)∧(∀x∈b.insts,jU x.args)
def iw (f:ap):Prop:=jU f.vars∧jU f.params∧jU f.blocks∧∀b∈f.blocks,xL b
theorem jU.lt {α:Type} {l:List α} (h:jU l):l.length≤140737488355328:=h
theorem jb {x y:Bool} (h:x=y):AV.bool x=AV.bool y:=congrArg AV.bool h
theorem wY (a c:ByteArray) (b d:Int) (w:World):(Op.equalIn 10000 73 (.agg [.string a,.int .i64 b].toArray) (.agg [.string c,.int .i64 d].toArray)).run prog w=.ok (decide (a=c∧b=d)) w:=by
 have hS:prog.underlying 73=some (.struct (prog.fieldsOf 73)):=by kernel_rfl
 have hp:prog.stoodInHeld 73=false:=by kernel_rfl
 rw[show (10000:Nat)=9999+1 from rfl,run_equalIn_agg w 9999 _ _ _ hS hp]
 simp only[Program.fieldsOf,ju]
 simp[Op.eqFields,part,jz,isAgg71,run_equalIn_string,run_equalIn_int,jr,underlying71]
 have e:=eF a c
 by_cases h1:a=c
 ·subst h1;by_cases h2:b=d<;>simp[h2]
 ·have h3:¬a.toList=c.toList:=by simpa [h1] using e
  simp[h1,h3]
theorem se (a b c d:Int) (w:World) (m:Nat):(Op.equalIn (m+2) 35 (.agg [.int .i64 a,.int .i64 b].toArray) (.agg [.int .i64 c,.int .i64 d].toArray)).run prog w=.ok (decide (a=c∧b=d)) w:=by
 rw[Op.equalIn]
 simp only[Sem.run_bind,run_underlying jm,Result.andThen_ok]
 simp only[Std.Legacy.Range.forIn_eq_forIn_range',Std.Legacy.Range.size,Nat.sub_zero,Nat.add_sub_cancel,Nat.div_one,List.range'_succ,List.range'_zero,List.forIn_cons,List.forIn_nil]
 simp[part,jf,jc,run_equalIn_int,underlying3]
 by_cases h1:a=c<;>by_cases h2:b=d<;>simp[h1,h2]
theorem uy (k v t0 t1 k' v' t0' t1':Int) (w:World):(Op.equalIn 10000 60 (.agg [.int .i64 k,.int .i64 v,.int .i64 t0,.int .i64 t1].toArray) (.agg [.int .i64 k',.int .i64 v',.int .i64 t0',.int .i64 t1'].toArray)).run prog w=.ok (decide (k=k'∧v=v'∧t0=t0'∧t1=t1')) w:=by
 have hS:prog.underlying 60=some (.struct (prog.fieldsOf 60)):=by kernel_rfl
 have hp:prog.stoodInHeld 60=false:=by kernel_rfl
 rw[show (10000:Nat)=9999+1 from rfl,run_equalIn_agg w 9999 _ _ _ hS hp]
 simp only[Program.fieldsOf,j7]
 have ha:(Op.equalIn 9999 35 (.agg #[.int .i64 t0,.int .i64 t1]) (.agg #[.int .i64 t0',.int .i64 t1'])).run prog w=.ok (decide (t0=t0'∧t1=t1')) w:=se t0 t1 t0' t1' w 9997
 simp[Op.eqFields,part,jf,Zg,isAgg35,jk,run_equalIn_int,underlying3,underlying58,ha]
 by_cases h1:k=k'<;>by_cases h2:v=v'<;>by_cases h3:t0=t0'<;>by_cases h4:t1=t1'<;>simp[h1,h2,h3,h4]
theorem uz (x y:dv):decide (x=y)=(decide (x.dst=y.dst)&&decide (x.args=y.args)&&decide (x.from_=y.from_)):=by
 cases x;cases y;simp[Bool.and_assoc]
theorem sf (x y:aN):decide (x=y)=(decide (x.op=y.op)&&decide (x.dst=y.dst)&&decide (x.num=y.num)&&decide (x.args=y.args)):=by
 cases x;cases y;apply Bool.eq_iff_iff.2;simp;constructor<;>(intro h;simp_all)
theorem uA {x y:fY} (h:x.name=y.name∧x.ty=y.ty):x=y:=by
 cases x;cases y;simp_all
theorem wC (xs ys:List Int) (hl:jU xs):aQ prog E 159 [.fro 1 (xs.map bX),.fro 1 (ys.map bX)] (.bool (decide (xs=ys))):=by
 have hl:=hl.lt
 refine zk func159 Z (by decide) Z<|aj<|ae Z<|z7<|za<|aj<|aY Z<|ad j6 Z<|aY Z<|ad j6 Z<|aD Z Z<|z7<|zn Z (fun c0=>?_) (fun c0=>?_)
 ·have h:¬xs=ys:=fun e=>by subst e;simp at c0
  refine aj<|ae Z<|z7<|zd<|zg (x:=.bool _) Z ?_
  rw[q0 h]
 ·have hl2:xs.length=ys.length:=by simp at c0;omega
  refine ze<|za<|aj<|aY Z<|ad j6 Z<|ab Z<|z7<|zh<|zt (γ:=Nat) [0,1,12] (fun k=>[(13,.int .i64 k)]) (fun k=>[]) (fun k=>k≤xs.length∧xs.take k=ys.take k) (fun k=>xs.length - k) 0 bg aX (⟨yw _,Z⟩) ?_
  rintro k ⟨hk,he⟩
  refine aj<|aB Z Z<|z7<|za<|zq Z (fun ck=>?_) (fun ck=>?_)
  ·have hk2:k<xs.length:=by omega
   have hk3:k<ys.length:=by omega
   refine ze<|za<|zh<|aj<|ab Z<|aw Z<|z7<|za<|zx (fun j=>false) (by kernel_rfl) Z (yd (.rest _))<|aR 0 Z (uj Z)<|aR 1 Z (jR Z)<|aR 2 Z (yc j6 jc Z Z Z (yt (by omega)))<|aR 3 Z (mu jf Z)<|aR 4 Z (uj Z)<|aR 5 Z (jR Z)<|aR 6 Z (yc j6 jc Z Z Z (yt (by omega)))<|aR 7 Z (mu jf Z)<|aR 8 Z (Gv.neqI Z Z)<|jQ<|zn Z (fun cd=>?_) (fun cd=>?_)
   ·refine aj<|ae Z<|z7<|zd<|zg (x:=.bool _) Z ?_
    rw[q0 (wv hk2 hk3 (by simpa using cd))]
   ·refine ze<|bA<|aI Z Z<|ab Z<|z7 ?_
    exact ⟨k+1,r3,bg,aX,⟨hk2,dA hk2 hk3 he (by simpa using cd)⟩,by omega⟩
  ·refine zu<|aj<|ae Z<|z7<|zd<|zg (x:=.bool _) Z ?_
   rw[decide_eq_true (dB hl2 (by omega) he)]
theorem e6 (xs ys:List Int) (hl:jU xs):aQ prog E 26 [.fro 1 (xs.map bX),.fro 1 (ys.map bX)] (.bool (decide (xs=ys))):=by
 have hl:=hl.lt
 refine zk func26 Z (by decide) Z<|aj<|ae Z<|z7<|za<|aj<|aY Z<|ad j6 Z<|aY Z<|ad j6 Z<|aD Z Z<|z7<|zn Z (fun c0=>?_) (fun c0=>?_)
 ·have h:¬xs=ys:=fun e=>by subst e;simp at c0
  refine aj<|ae Z<|z7<|zd<|zg (x:=.bool _) Z ?_
  rw[q0 h]
 ·have hl2:xs.length=ys.length:=by simp at c0;omega
  refine ze<|za<|aj<|aY Z<|ad j6 Z<|ab Z<|z7<|zh<|zt (γ:=Nat) [0,1,12] (fun k=>[(13,.int .i64 k)]) (fun k=>[]) (fun k=>k≤xs.length∧xs.take k=ys.take k) (fun k=>xs.length - k) 0 bg aX (⟨yw _,Z⟩) ?_
  rintro k ⟨hk,he⟩
  refine aj<|aB Z Z<|z7<|za<|zq Z (fun ck=>?_) (fun ck=>?_)
  ·have hk2:k<xs.length:=by omega
   have hk3:k<ys.length:=by omega
   refine ze<|za<|zh<|aj<|ab Z<|aw Z<|z7<|za<|zx (fun j=>false) (by kernel_rfl) Z (yd (.rest _))<|aR 0 Z (uj Z)<|aR 1 Z (jR Z)<|aR 2 Z (yc j6 jc Z Z Z (yt (by omega)))<|aR 3 Z (mu jf Z)<|aR 4 Z (uj Z)<|aR 5 Z (jR Z)<|aR 6 Z (yc j6 jc Z Z Z (yt (by omega)))<|aR 7 Z (mu jf Z)<|aR 8 Z (Gv.neqI Z Z)<|jQ<|zn Z (fun cd=>?_) (fun cd=>?_)
   ·refine aj<|ae Z<|z7<|zd<|zg (x:=.bool _) Z ?_
    rw[q0 (wv hk2 hk3 (by simpa using cd))]
   ·refine ze<|bA<|aI Z Z<|ab Z<|z7 ?_
    exact ⟨k+1,r3,bg,aX,⟨hk2,dA hk2 hk3 he (by simpa using cd)⟩,by omega⟩
  ·refine zu<|aj<|ae Z<|z7<|zd<|zg (x:=.bool _) Z ?_
   rw[decide_eq_true (dB hl2 (by omega) he)]
end
end Go.Proofs.YtbconpmnckokoaaGreatDoor
namespace Go.Proofs
open Go.Shelf
def Tryz.laysM284_ren:Go.Shelf.Ren:=⟨fun|284=>260|129=>174|317=>266|318=>267|n=>n,fun|53=>126|3=>3|212=>362|0=>0|4=>4|46=>203|5=>5|9=>9|n=>n,fun|17=>2|n=>n⟩
theorem Tryz.laysM284:Go.Proofs.LaysM.n284 prog Tryz.laysM284_ren:={
 mixed:=by kernel_rfl
 f129:=func174.trans (congrArg some (by kernel_rfl))
 f284:=func260.trans (congrArg some (by kernel_rfl))
 f317:=func266.trans (congrArg some (by kernel_rfl))
 f318:=func267.trans (congrArg some (by kernel_rfl))
 t0:=underlying0
 a0:=isAgg0
 z0:=sizeOf0
 v0:=zeroValue0
 t3:=underlying3
 a3:=isAgg3
 z3:=sizeOf3
 v3:=zeroValue3
 t4:=underlying4
 a4:=isAgg4
 z4:=sizeOf4
 v4:=zeroValue4
 t5:=underlying5
 a5:=isAgg5
 z5:=sizeOf5
 v5:=zeroValue5
 t9:=underlying9
 a9:=isAgg9
 z9:=sizeOf9
 v9:=zeroValue9
 t46:=underlying203
 a46:=isAgg203
 z46:=sizeOf203
 v46:=zeroValue203
 t53:=underlying126
 a53:=isAgg126
 z53:=sizeOf126
 v53:=zeroValue126
 t212:=underlying362
 a212:=isAgg362
 z212:=sizeOf362
 v212:=zeroValue362
 g17:=by kernel_rfl
 i0:=by kernel_rfl
 i3:=by kernel_rfl
 i4:=by kernel_rfl
 i5:=by kernel_rfl
 i9:=by kernel_rfl
 i46:=by kernel_rfl
 i53:=by kernel_rfl
 i212:=by kernel_rfl
 m17:=by kernel_rfl }
def Tryz.lays200_ren:Go.Shelf.Ren:=⟨fun|200=>82|261=>94|311=>117|312=>118|n=>n,fun|21=>21|4=>4|51=>167|5=>5|119=>168|0=>0|141=>170|196=>190|193=>187|3=>3|198=>192|49=>43|194=>188|201=>195|226=>225|46=>203|227=>226|n=>n,fun|7=>0|8=>1|n=>n⟩
theorem Tryz.lays200:Go.Proofs.Lays.n200 prog Tryz.lays200_ren:={
 mixed:=by kernel_rfl
 f200:=func82.trans (congrArg some (by kernel_rfl))
 f261:=func94.trans (congrArg some (by kernel_rfl))
 f311:=func117.trans (congrArg some (by kernel_rfl))
 f312:=func118.trans (congrArg some (by kernel_rfl))
 t0:=underlying0
 a0:=isAgg0
 z0:=sizeOf0
 v0:=zeroValue0
 t3:=underlying3
 a3:=isAgg3
 z3:=sizeOf3
 v3:=zeroValue3
 t4:=underlying4
 a4:=isAgg4
 z4:=sizeOf4
 v4:=zeroValue4
 t5:=underlying5
 a5:=isAgg5
 z5:=sizeOf5
 v5:=zeroValue5
 t21:=underlying21
 a21:=isAgg21
 z21:=sizeOf21
 v21:=zeroValue21
 t46:=underlying203
 a46:=isAgg203
 z46:=sizeOf203
 v46:=zeroValue203
 t49:=underlying43
 a49:=isAgg43
 z49:=sizeOf43
 v49:=zeroValue43
 t51:=underlying167
 a51:=isAgg167
 z51:=sizeOf167
 v51:=zeroValue167
 t119:=underlying168
 a119:=isAgg168
 z119:=sizeOf168
 t141:=underlying170
 a141:=isAgg170
 z141:=sizeOf170
 v141:=zeroValue170
 t193:=underlying187
 a193:=isAgg187
 z193:=sizeOf187
 v193:=zeroValue187
 t194:=underlying188
 a194:=isAgg188
 z194:=sizeOf188
 v194:=zeroValue188
 t196:=underlying190
 a196:=isAgg190
 z196:=sizeOf190
 v196:=zeroValue190
 t198:=underlying192
 a198:=isAgg192
 z198:=sizeOf192
 v198:=zeroValue192
 t201:=underlying195
 a201:=isAgg195
 z201:=sizeOf195
 v201:=zeroValue195
 t226:=underlying225
 a226:=isAgg225
 z226:=sizeOf225
 v226:=zeroValue225
 t227:=underlying226
 a227:=isAgg226
 z227:=sizeOf226
 v227:=zeroValue226
 g7:=by kernel_rfl
 g8:=by kernel_rfl }
open Go.RowKit Go.Lib in
theorem Tryz.unicode_IsLetter_all (r:Int) (w:World) (hlo:-2147483648≤r) (hhi:r≤2147483647) (htab:Lib.TabIs prog w "unicode.properties" .u8 Lib.propertiesTab) (hV:RVar 1 letterT w) :
  Calls prog 82 #[.int .i32 r] w fun e w'=>e=.returned (.bool (isLetterU r))∧Below w.heap.size w w':=Any.unicode_IsLetter_all Tryz.lays200 (by kernel_rfl) r w hlo hhi htab hV
end Go.Proofs
namespace Go.Proofs.YtbconpmnckokoaaGreatDoor
section
open Go.Proofs.Tryz
open Go.Proofs
theorem sg:gM prog 35 1 [.int .i64 0,.int .i64 0]:=⟨_,_,_,jm,zeroValue35,jc,rfl⟩
set_option maxRecDepth 20000
variable {E:World}
def dj (f:ap) (x:aN):Bool:=decide ((bf x.op).1=⟨#[]⟩)||!decide (x.args.length=(aV x.op).length)||!x.args.all (bb f)
def dp (f:ap) (x:aN):Bool:=(cf x.op&&!bb f x.dst)||(!cf x.op&&!decide (x.dst=-1))
def bE (f:ap) (x:aN):Bool:=!dj f x&&!dp f x&&(decide (x.num=0)||ij x.op)
def bj (f:ap) (t:fE):Bool:=if t.kind=0 then da f t.to0&&decide (t.to1=0)&&decide (t.var=0) else if t.kind=1 then bb f t.var&&da f t.to0&&da f t.to1 else
 if t.kind=2 then bb f t.var&&decide (t.to0=0∧t.to1=0) else false
theorem eP (a b c d:Int) (w:World):(Op.equalIn 10000 35 (.agg [.int .i64 a,.int .i64 b].toArray) (.agg [.int .i64 c,.int .i64 d].toArray)).run prog w=.ok (decide (a=c∧b=d)) w:=se a b c d w 9998
theorem q7 (f:ap) (x:aN) (hx:jU x.args):aQ prog E 57 [.agg (bP f),.agg (aW x)] (.bool (bE f x)):=by
 have hl:=hx.lt
 refine zk func57 Z (by decide) Z<|aj<|zy (cs:=_) Z Z Z<|zy (cs:=_) Z Z Z<|ae Z<|z7<|aj<|ax wz Z jx Z Z<|aP Z3 Z<|zc (ir _) Z<|z8 (xK Z)<|z8 (wx Z Z)<|z8 (wA Z Z)<|aw Z<|ae Z<|z7<|za<|zh<|za<|zx (fun j=>false) (by kernel_rfl) Z (yd (.rest _))<|aR 0 Z (jS wz Z jx Z Z)<|aR 1 Z (mu Z3 Z)<|eZ 2 Z<|zc (q4 _) Z<|z7<|aR 3 Z (Gv.eqlT Z Z)<|aR 4 Z (ww Z)<|bl.case (s:=18) Z (fun c1=>?_) (fun c1=>?_)
 ·refine eg 5 Z Z Z c1<|eg 6 Z Z Z c1<|eg 7 Z Z Z c1<|eg 8 Z Z Z c1<|eg 9 Z Z Z c1<|eg 10 Z Z Z c1<|eg 11 Z Z Z c1<|eg 12 Z Z Z c1<|aR 13 Z (uw Z c1 Z)<|aR 14 Z (ww Z)<|eg 15 Z Z Z Z<|eg 16 Z Z Z Z<|eg 17 Z Z Z Z<|eg 18 Z Z Z Z<|eg 19 Z Z Z Z<|aR 20 Z (uw Z Z Z)<|aR 21 Z (wW Z)<|jQ<|y9 Z Z<|aj<|ae Z<|z7<|zd<|zg (x:=.bool _) Z ?_
  exact jb (by simp_all[bE,dj,dp,Int.ofNat_inj]<;>grind)
 ·refine gP 5 Z Z Z c1 (jS wz Z je Z Z)<|gP 6 Z Z Z c1 (q5 jj Z)<|gP 7 Z Z Z c1 (Gv.lenM j6 Z)<|gP 8 Z Z Z c1 (jS wz Z jx Z Z)<|gP 9 Z Z Z c1 (mu Z3 Z)<|eZ 10 Z<|z6 Z Z c1<|zc (iq _) Z<|z7<|gP 11 Z Z Z c1 (Gv.lenM underlying119 Z)<|gP 12 Z Z Z c1 (Gv.neqI Z Z)<|aR 13 Z (ux Z c1 Z)<|aR 14 Z (ww Z)<|bl.case (s:=28) Z (fun c2=>?_) (fun c2=>?_)
  ·refine eg 15 Z Z Z c2<|eg 16 Z Z Z c2<|eg 17 Z Z Z c2<|eg 18 Z Z Z c2<|eg 19 Z Z Z c2<|aR 20 Z (uw Z c2 Z)<|aR 21 Z (wW Z)<|jQ<|y9 Z Z<|aj<|ae Z<|z7<|zd<|zg (x:=.bool _) Z ?_
   exact jb (by simp_all[bE,dj,dp,Int.ofNat_inj]<;>grind)
  ·refine gP 15 Z Z Z c2 (ya j9 j5 Z Z)<|gP 16 Z Z Z c2 (jS wz Z je Z Z)<|gP 17 Z Z Z c2 (q5 jj Z)<|eZ 18 Z<|z6 Z Z c2<|zc (kq _ _ (by omega)) Z<|z7<|gP 19 Z Z Z c2 (Gv.not Z)<|aR 20 Z (ux Z c2 Z)<|aR 21 Z (wW Z)<|jQ<|zn Z (fun c3=>?_) (fun c3=>?_)
   ·refine aj<|ae Z<|z7<|zd<|zg (x:=.bool _) Z ?_
    exact jb (by simp_all[bE,dj,dp,Int.ofNat_inj]<;>grind)
   ·refine aj<|ah Z<|ah Z<|zi (s:=37) Z (fun c4=>?_) (fun c4=>?_)
    ·refine z6 Z Z c4<|aa j9 j5 Z Z<|z6 Z Z c4<|ax wz Z jc Z Z<|z6 Z Z c4<|aP jf Z<|z6 Z Z c4<|zc (eN _ _) Z<|z6 Z Z c4<|aJ Z<|ai Z c4 Z<|ah Z<|zi (s:=44) Z (fun c5=>?_) (fun c5=>?_)
     ·refine z2 Z Z c5<|z2 Z Z c5<|z2 Z Z c5<|zb Z Z<|zb Z Z<|zb Z Z<|z2 Z Z c5<|ai Z c5 Z<|ae Z<|z7<|y9 Z Z<|aj<|ae Z<|z7<|zd<|zg (x:=.bool _) Z ?_
      exact jb (by simp_all[bE,dj,dp,Int.ofNat_inj]<;>grind)
     ·refine z6 Z Z c5<|ah Z<|z6 Z Z c5<|aJ Z<|z6 Z Z c5<|ah Z<|zi (s:=47) Z (fun c6=>?_) (fun c6=>?_)
      ·refine z6 Z Z c6<|ax wz Z jc Z Z<|z6 Z Z c6<|aP jf Z<|z6 Z Z c6<|aD Z Z<|z6 Z Z c5<|ai Z c6 Z<|ak Z c5 Z<|ae Z<|z7<|zn Z (fun c7=>?_) (fun c7=>?_)
       ·refine aj<|ae Z<|z7<|zd<|zg (x:=.bool _) Z ?_
        exact jb (by simp_all[bE,dj,dp,Int.ofNat_inj]<;>grind)
       ·refine ze<|aj<|ax wz Z sizeOf2 Z Z<|aP isAgg2 Z<|aA Z Z<|ah Z<|zi (s:=56) Z (fun c8=>?_) (fun c8=>?_)
        ·refine z2 Z Z c8<|z2 Z Z c8<|z2 Z Z c8<|ai Z c8 Z<|ae Z<|z7<|zd<|zg (x:=.bool _) Z ?_
         exact jb (by simp_all[bE,dj,dp,Int.ofNat_inj]<;>grind)
        ·refine z6 Z Z c8<|ax wz Z jx Z Z<|z6 Z Z c8<|aP Z3 Z<|z6 Z Z c8<|zc (dh _) Z<|ak Z c8 Z<|ae Z<|z7<|zd<|zg (x:=.bool _) Z ?_
         exact jb (by simp_all[bE,dj,dp,Int.ofNat_inj]<;>grind)
      ·refine z2 Z Z c6<|z2 Z Z c6<|z2 Z Z c6<|z6 Z Z c5<|ak Z c6 Z<|ak Z c5 Z<|ae Z<|z7<|y7 Z Z<|ze<|aj<|ax wz Z sizeOf2 Z Z<|aP isAgg2 Z<|aA Z Z<|ah Z<|zi (s:=56) Z (fun c9=>?_) (fun c9=>?_)
       ·refine z2 Z Z c9<|z2 Z Z c9<|z2 Z Z c9<|ai Z c9 Z<|ae Z<|z7<|zd<|zg (x:=.bool _) Z ?_
        exact jb (by simp_all[bE,dj,dp,Int.ofNat_inj]<;>grind)
       ·refine z6 Z Z c9<|ax wz Z jx Z Z<|z6 Z Z c9<|aP Z3 Z<|z6 Z Z c9<|zc (dh _) Z<|ak Z c9 Z<|ae Z<|z7<|zd<|zg (x:=.bool _) Z ?_
        exact jb (by simp_all[bE,dj,dp,Int.ofNat_inj]<;>grind)
    ·refine z2 Z Z c4<|z2 Z Z c4<|z2 Z Z c4<|z2 Z Z c4<|z2 Z Z c4<|ak Z c4 Z<|ah Z<|z6 Z Z Z<|ah Z<|z6 Z Z Z<|aJ Z<|z6 Z Z Z<|ah Z<|zi (s:=47) Z (fun c10=>?_) (fun c10=>?_)
     ·refine z6 Z Z c10<|ax wz Z jc Z Z<|z6 Z Z c10<|aP jf Z<|z6 Z Z c10<|aD Z Z<|z6 Z Z Z<|ai Z c10 Z<|ak Z Z Z<|ae Z<|z7<|zn Z (fun c11=>?_) (fun c11=>?_)
      ·refine aj<|ae Z<|z7<|zd<|zg (x:=.bool _) Z ?_
       exact jb (by simp_all[bE,dj,dp,Int.ofNat_inj]<;>grind)
      ·refine ze<|aj<|ax wz Z sizeOf2 Z Z<|aP isAgg2 Z<|aA Z Z<|ah Z<|zi (s:=56) Z (fun c12=>?_) (fun c12=>?_)
       ·refine z2 Z Z c12<|z2 Z Z c12<|z2 Z Z c12<|ai Z c12 Z<|ae Z<|z7<|zd<|zg (x:=.bool _) Z ?_
        exact jb (by simp_all[bE,dj,dp,Int.ofNat_inj]<;>grind)
       ·refine z6 Z Z c12<|ax wz Z jx Z Z<|z6 Z Z c12<|aP Z3 Z<|z6 Z Z c12<|zc (dh _) Z<|ak Z c12 Z<|ae Z<|z7<|zd<|zg (x:=.bool _) Z ?_
        exact jb (by simp_all[bE,dj,dp,Int.ofNat_inj]<;>grind)
     ·refine z2 Z Z c10<|z2 Z Z c10<|z2 Z Z c10<|z6 Z Z Z<|ak Z c10 Z<|ak Z Z Z<|ae Z<|z7<|y7 Z Z<|ze<|aj<|ax wz Z sizeOf2 Z Z<|aP isAgg2 Z<|aA Z Z<|ah Z<|zi (s:=56) Z (fun c13=>?_) (fun c13=>?_)
      ·refine z2 Z Z c13<|z2 Z Z c13<|z2 Z Z c13<|ai Z c13 Z<|ae Z<|z7<|zd<|zg (x:=.bool _) Z ?_
       exact jb (by simp_all[bE,dj,dp,Int.ofNat_inj]<;>grind)
      ·refine z6 Z Z c13<|ax wz Z jx Z Z<|z6 Z Z c13<|aP Z3 Z<|z6 Z Z c13<|zc (dh _) Z<|ak Z c13 Z<|ae Z<|z7<|zd<|zg (x:=.bool _) Z ?_
       exact jb (by simp_all[bE,dj,dp,Int.ofNat_inj]<;>grind)
theorem q8 (f:ap) (t:fE):aQ prog E 58 [.agg (bP f),.agg (kM t)] (.bool (bj f t)):=by
 refine zk func58 Z (by decide) Z<|aj<|zy (cs:=_) Z Z Z<|zy (cs:=_) Z Z Z<|ae Z<|z7<|za<|aj<|ax j7 Z Zf Z Z<|aP Zg Z<|z7<|zh<|aj<|aA Z Z<|ae Z<|z7<|zn Z (fun c14=>?_) (fun c14=>?_)
 ·refine aj<|aa j9 j5 Z Z<|ax j7 Z jk Z Z<|z8 (yp (j:=0) jm jc Z Z Z (by decide) Z)<|aP jf Z<|zc (gO _ _) Z<|ah Z<|zi (s:=14) Z (fun c15=>?_) (fun c15=>?_)
  ·refine z6 Z Z c15<|ax j7 Z jk Z Z<|z6 Z Z c15<|z8 (yp (j:=1) jm jc Z Z Z (by decide) Z)<|z6 Z Z c15<|aP jf Z<|z6 Z Z c15<|aA Z Z<|ai Z c15 Z<|ah Z<|zi (s:=20) Z (fun c16=>?_) (fun c16=>?_)
   ·refine z6 Z Z c16<|ax j7 Z jc Z Z<|z6 Z Z c16<|aP jf Z<|z6 Z Z c16<|aA Z Z<|ai Z c16 Z<|ae Z<|z7<|zd<|zg (x:=.bool _) Z ?_
    exact jb (by simp_all[bj]<;>grind)
   ·refine z2 Z Z c16<|z2 Z Z c16<|z2 Z Z c16<|ak Z c16 Z<|ae Z<|z7<|zd<|zg (x:=.bool _) Z ?_
    exact jb (by simp_all[bj]<;>grind)
  ·refine z2 Z Z c15<|z2 Z Z c15<|z2 Z Z c15<|z2 Z Z c15<|ak Z c15 Z<|ah Z<|z2 Z Z Z<|z2 Z Z Z<|z2 Z Z Z<|ak Z Z Z<|ae Z<|z7<|zd<|zg (x:=.bool _) Z ?_
   exact jb (by simp_all[bj]<;>grind)
 ·refine aj<|aA Z Z<|ae Z<|z7<|zn Z (fun c17=>?_) (fun c17=>?_)
  ·refine aj<|aa j9 j5 Z Z<|ax j7 Z jc Z Z<|aP jf Z<|zc (eN _ _) Z<|ah Z<|zi (s:=31) Z (fun c18=>?_) (fun c18=>?_)
   ·refine z6 Z Z c18<|aa j9 j5 Z Z<|z6 Z Z c18<|ax j7 Z jk Z Z<|z6 Z Z c18<|z8 (yp (j:=0) jm jc Z Z Z (by decide) Z)<|z6 Z Z c18<|aP jf Z<|z6 Z Z c18<|zc (gO _ _) Z<|ai Z c18 Z<|ah Z<|zi (s:=38) Z (fun c19=>?_) (fun c19=>?_)
    ·refine z6 Z Z c19<|aa j9 j5 Z Z<|z6 Z Z c19<|ax j7 Z jk Z Z<|z6 Z Z c19<|z8 (yp (j:=1) jm jc Z Z Z (by decide) Z)<|z6 Z Z c19<|aP jf Z<|z6 Z Z c19<|zc (gO _ _) Z<|ai Z c19 Z<|ae Z<|z7<|zd<|zg (x:=.bool _) Z ?_
     exact jb (by simp_all[bj]<;>grind)
    ·refine z2 Z Z c19<|z2 Z Z c19<|z2 Z Z c19<|z2 Z Z c19<|z2 Z Z c19<|ak Z c19 Z<|ae Z<|z7<|zd<|zg (x:=.bool _) Z ?_
     exact jb (by simp_all[bj]<;>grind)
   ·refine z2 Z Z c18<|z2 Z Z c18<|z2 Z Z c18<|z2 Z Z c18<|z2 Z Z c18<|ak Z c18 Z<|ah Z<|z2 Z Z Z<|z2 Z Z Z<|z2 Z Z Z<|z2 Z Z Z<|z2 Z Z Z<|ak Z Z Z<|ae Z<|z7<|zd<|zg (x:=.bool _) Z ?_
    exact jb (by simp_all[bj]<;>grind)
  ·refine aj<|aA Z Z<|ae Z<|z7<|zn Z (fun c20=>?_) (fun c20=>?_)
   ·refine aj<|aa j9 j5 Z Z<|ax j7 Z jc Z Z<|aP jf Z<|zc (eN _ _) Z<|ah Z<|zi (s:=51) Z (fun c21=>?_) (fun c21=>?_)
    ·refine z6 Z Z c21<|ax j7 Z jk Z Z<|z6 Z Z c21<|aa isAgg35 jk Z Z<|z6 Z Z c21<|z8 (Gv.buildA (cps:=[]) (rs:=[.int .i64 0,.int .i64 0]) sg Z Z Z)<|z6 Z Z c21<|z8 (Gv.eqlP (xs:=[.int _ _,.int _ _]) (ys:=[.int _ _,.int _ _]) (by kernel_rfl) Z Z (fun w=>eP _ _ _ _ w))<|ai Z c21 Z<|ae Z<|z7<|zd<|zg (x:=.bool _) Z ?_
     exact jb (by simp_all[bj]<;>grind)
    ·refine z2 Z Z c21<|z2 Z Z c21<|z2 Z Z c21<|z2 Z Z c21<|ak Z c21 Z<|ae Z<|z7<|zd<|zg (x:=.bool _) Z ?_
     exact jb (by simp_all[bj]<;>grind)
   ·refine ze<|aj<|ae Z<|z7<|zd<|zg (x:=.bool _) Z ?_
    exact jb (by simp_all[bj]<;>grind)
def jZ (s:ByteArray):List AV:=[.str s]
end
section
open Go.Proofs.Tryz
section
variable {E:World} {P:Program} {env:aE} {O:OL} {d ty:Nat} {pos:String} {af:Array Edge} {x y:Operand} {t u e:TypeId}
end
end
section
open Go.Proofs.Tryz
section
variable {E:World} {P:Program} {n:Nat} {l:List Oper} {W:Nat→Bool} {Q:aE→OL→Prop} {fuel:Nat} {listed:Array Bool} {env:aE} {O Os Om:OL}
theorem bl.two {i j:Nat} {o o':Oper} (hi:l[i]?=some o) (hj:l[j]?=some o') (hr:Region.ready .any l.toArray listed=[i,j])
  (h:aq P E l.toArray (fun env' Om'=>bl P E l W Q fuel (listed.setIfInBounds i true) env' Os Om') [o] env Om)
  (h':aq P E l.toArray (fun env' Om'=>bl P E l W Q fuel (listed.setIfInBounds j true) env' Os Om') [o'] env Om):bl P E l W Q (fuel+1) listed env Os Om:=fun I F ρ w Ls h1 hLs h2=>by
 have key:∀k ok,aq P E l.toArray (fun env' Om'=>bl P E l W Q fuel (listed.setIfInBounds k true) env' Os Om') [ok] env Om →
   bq P l.toArray (fun ρ' w'=>(dE I.k [] E w'∧(cE W (listed.setIfInBounds k true)∨dE I.k Ls E w'))∧bo P l.toArray (dE I.k [] E) (dE I.k Ls E) W (cG I F E Q) fuel (listed.setIfInBounds k true) ρ' w') [ok] ρ w:=fun k ok h=>
  yk (fun ρ' w' ⟨J,env',Om',a,b,c,d⟩=>by
   have hst:dE I.k Ls E w':=by
    obtain ⟨J',L',h3,h4,h5⟩:=c.here
    exact ⟨J',L',a.k.trans h3,h4,h5⟩
   refine ⟨⟨hst.less,.inr hst⟩,bo.mono ?_ ?_ (fun _ _=>cG.up a) _ _ _ _ (d J F ρ' w' Ls b (hLs.mono a) c)⟩
   ·rintro w ⟨J',L',h3,h4⟩;exact ⟨J',L',a.k.trans h3,h4⟩
   ·rintro w ⟨J',L',h3,h4⟩;exact ⟨J',L',a.k.trans h3,h4⟩) _ _ _ (h I (Ls++F) ρ w h1 h2)
 refine ⟨fun h0=>(by rw[hr] at h0;cases h0),fun k hk o2 ho2=>?_⟩
 rw[hr] at hk
 simp only[List.mem_cons,List.not_mem_nil,or_false] at hk
 rw[List.getElem?_toArray] at ho2
 rcases hk with rfl|rfl
 ·rw[hi] at ho2;cases ho2;exact key _ _ h
 ·rw[hj] at ho2;cases ho2;exact key _ _ h'
end
end
section
open Go.Proofs.Tryz
section
variable {E:World} {P:Program} {n:Nat} {l:List Oper} {W:Nat→Bool} {Q:aE→OL→Prop} {fuel:Nat} {listed:Array Bool} {env:aE} {O Os Om:OL}
end
theorem bx.know {E:World} {P:Program} {f:FuncId} {as0:List AV} {O:OL} {R R':AV→OL→Prop} (h:bx P E f as0 O R) (hr:∀I F w v x O',R x O'→bu I x v→dV I O' F E w→∃J y O'',I.le J∧bu J y v∧dV J O'' F E w∧R' y O''):bx P E f as0 O R':=fun I F w vs h1 h2=>
 (h I F w vs h1 h2).mono fun v w' ⟨J,x,O',a,b,c,d⟩=>by
  obtain ⟨K,y,O'',e1,e2,e3,e4⟩:=hr J F w' v x O' d b c
  exact ⟨K,y,O'',a.trans e1,e2,e3,e4⟩
end
section
open Go.Proofs.Tryz
open Go.Proofs Go.Lib Go.Shelf Go.RowKit
theorem db:fV prog 97 #[(0,1),(1,1),(2,1)] [.str ⟨#[]⟩,.str ⟨#[]⟩,.str ⟨#[]⟩]:=⟨_,_,jy,zeroValue97,fun w=>by kernel_rfl,rfl⟩
theorem uB:dg prog 98 97 27 3 [.str ⟨#[]⟩,.str ⟨#[]⟩,.str ⟨#[]⟩,.str ⟨#[]⟩,.str ⟨#[]⟩,.str ⟨#[]⟩,.str ⟨#[]⟩,.str ⟨#[]⟩,.str ⟨#[]⟩,.str ⟨#[]⟩,.str ⟨#[]⟩,.str ⟨#[]⟩,.str ⟨#[]⟩,.str ⟨#[]⟩,.str ⟨#[]⟩,.str ⟨#[]⟩,.str ⟨#[]⟩,.str ⟨#[]⟩,.str ⟨#[]⟩,.str ⟨#[]⟩,.str ⟨#[]⟩,.str ⟨#[]⟩,.str ⟨#[]⟩,.str ⟨#[]⟩,.str ⟨#[]⟩,.str ⟨#[]⟩,.str ⟨#[]⟩,.str ⟨#[]⟩,.str ⟨#[]⟩,.str ⟨#[]⟩,.str ⟨#[]⟩,.str ⟨#[]⟩,.str ⟨#[]⟩,.str ⟨#[]⟩,.str ⟨#[]⟩,.str ⟨#[]⟩,.str ⟨#[]⟩,.str ⟨#[]⟩,.str ⟨#[]⟩,.str ⟨#[]⟩,.str ⟨#[]⟩,.str ⟨#[]⟩,.str ⟨#[]⟩,.str ⟨#[]⟩,.str ⟨#[]⟩,.str ⟨#[]⟩,.str ⟨#[]⟩,.str ⟨#[]⟩,.str ⟨#[]⟩,.str ⟨#[]⟩,.str ⟨#[]⟩,.str ⟨#[]⟩,.str ⟨#[]⟩,.str ⟨#[]⟩,.str ⟨#[]⟩,.str ⟨#[]⟩,.str ⟨#[]⟩,.str ⟨#[]⟩,.str ⟨#[]⟩,.str ⟨#[]⟩,.str ⟨#[]⟩,.str ⟨#[]⟩,.str ⟨#[]⟩,.str ⟨#[]⟩,.str ⟨#[]⟩,.str ⟨#[]⟩,.str ⟨#[]⟩,.str ⟨#[]⟩,.str ⟨#[]⟩,.str ⟨#[]⟩,.str ⟨#[]⟩,.str ⟨#[]⟩,.str ⟨#[]⟩,.str ⟨#[]⟩,.str ⟨#[]⟩,.str ⟨#[]⟩,.str ⟨#[]⟩,.str ⟨#[]⟩,.str ⟨#[]⟩,.str ⟨#[]⟩,.str ⟨#[]⟩]:=⟨_,underlying98,Zb,zeroValue97,by decide,by decide,by kernel_rfl⟩
set_option maxRecDepth 20000
variable {E:World}
def ac (E:World):Prop:=Lib.TabIs prog E "unicode.properties" .u8 Lib.propertiesTab∧RVar 1 letterT E
theorem eQ (c:Int) (h1:-2147483648≤c) (h2:c≤2147483647) (hL:ac E):aQ prog E 82 [.int .i32 c] (.bool (isLetterU c)):=
 aQ.ofBelow (vs:=[.int .i32 c]) (r:=.bool (isLetterU c)) func82 rfl (by decide) rfl fun w hw=>Tryz.unicode_IsLetter_all c w h1 h2 (TabIs_below (g:=0) (by kernel_rfl) hL.1 hw) (RVar_below hL.2 hw)
theorem b5 (s:ByteArray) (p:Nat):1≤(Utf8.decode s p).2∧(Utf8.decode s p).1≤2097151:=by
 have h256:∀k,(s.get! k).toNat<256:=fun k=>(s.get! k).toNat_lt
 unfold Utf8.decode
 dsimp only
 constructor
 ·repeat' split
  all_goals simp
 ·have h0:=h256 (p+0)
  have h1:=h256 (p+1)
  have h2:=h256 (p+2)
  have h3:=h256 (p+3)
  repeat' split
  all_goals (simp only[Utf8.runeError];omega)
def bF (c:Int) (n:Nat):Bool:=(isLetterU c&&!decide (c=65533))||(!decide ((n:Int)=0)&&((decide (48≤c)&&decide (c≤57))||decide (c=46)||decide (c=95)))
def co (s:ByteArray) (p n:Nat):Bool:=
 if h:p<s.size then (if bF (Utf8.decode s p).1 n then co s (p+(Utf8.decode s p).2) (n+1) else false) else decide ((1:Int)≤n)&&decide ((n:Int)≤16)
termination_by s.size - p
decreasing_by have:=(b5 s p).1;omega
def fF (s:ByteArray):Bool:=co s 0 0
theorem kw (s:ByteArray) (hs:s.size≤140737488355328) (hL:ac E):aQ prog E 65 [.str s] (.bool (fF s)):=by
 refine zk func65 Z (by decide) Z<|aj<|ae Z<|z7<|aj<|aw Z<|z7<|za<|aj<|z8 (zw (v:=.str _) Z)<|aq.rangeT jr Z<|fun i8=>z7<|zh<|zt (γ:=Nat × Nat) [8] (fun g=>[(3,.int .i64 g.2)]) (fun g=>[(i8,.iter s g.1)]) (fun g=>co s g.1 g.2=fF s∧g.2≤g.1∧g.2≤s.size) (fun g=>s.size - g.1) (0,0) bg aX (⟨Z,Nat.le_refl _,yw _⟩) ?_
 rintro ⟨p,n⟩ ⟨hp,hn,hn2⟩
 try dsimp only at *
 by_cases hlt:p<s.size
 ·obtain ⟨hd1,hd2⟩:=b5 s p
  have hstep:=hp
  rw[co,dif_pos hlt] at hstep
  refine aj<|aq.nextT Z .head hlt<|z8 (wA Z Z)<|z7<|za<|y9 Z Z<|ze<|zh<|aj<|z8 (wx Z Z)<|aw Z<|z7<|aj<|ab Z<|zc (eQ _ (by omega) (by omega) hL) Z<|ah Z<|zi (s:=14) Z (fun c1=>?_) (fun c1=>?_)
  ·refine z6 Z Z c1<|ab Z<|z6 Z Z c1<|aD Z Z<|ai Z c1 Z<|ae Z<|z7<|za<|aj<|ah Z<|aJ Z<|ah Z<|zi (s:=20) Z (fun c2=>?_) (fun c2=>?_)
   ·refine z6 Z Z c2<|ab Z<|z6 Z Z c2<|aA Z Z<|z6 Z Z c2<|ah Z<|zi (s:=23) Z (fun c3=>?_) (fun c3=>?_)
    ·refine z2 Z Z c3<|z2 Z Z c3<|z2 Z Z c3<|zb Z Z<|zb Z Z<|z2 Z Z c3<|z2 Z Z c3<|z2 Z Z c3<|zb Z Z<|zb Z Z<|z2 Z Z c3<|z2 Z Z c3<|zb Z Z<|zb Z Z<|z2 Z Z c3<|z6 Z Z c2<|ai Z c3 Z<|ai Z c2 Z<|z7<|y9 Z Z<|aj<|ae Z<|z7<|zd<|zg (x:=.bool _) Z ?_
     rw[if_neg (by simp_all[bF]<;>omega)] at hstep;exact jb hstep
    ·refine z6 Z Z c3<|ab Z<|z6 Z Z c3<|z8 (Gv.geq Z Z)<|z6 Z Z c3<|ah Z<|zi (s:=26) Z (fun c4=>?_) (fun c4=>?_)
     ·refine z6 Z Z c4<|ab Z<|z6 Z Z c4<|z8 (Gv.leq Z Z)<|z6 Z Z c3<|ai Z c4 Z<|z6 Z Z c3<|aJ Z<|z6 Z Z c3<|ah Z<|zi (s:=31) Z (fun c5=>?_) (fun c5=>?_)
      ·refine z6 Z Z c5<|ab Z<|z6 Z Z c5<|aD Z Z<|z6 Z Z c3<|ai Z c5 Z<|z6 Z Z c3<|ah Z<|zi (s:=35) Z (fun c6=>?_) (fun c6=>?_)
       ·refine z6 Z Z c6<|ab Z<|z6 Z Z c6<|aD Z Z<|z6 Z Z c3<|ai Z c6 Z<|z6 Z Z c2<|ak Z c3 Z<|ai Z c2 Z<|z7<|zn Z (fun c7=>?_) (fun c7=>?_)
        ·refine aj<|ae Z<|z7<|zd<|zg (x:=.bool _) Z ?_
         rw[if_neg (by simp_all[bF]<;>omega)] at hstep;exact jb hstep
        ·refine ze<|bA<|ab Z<|aI Z Z<|aw Z<|z7 ?_
         exact ⟨(p+(Utf8.decode s p).2,n+1),bg,bg,aX,⟨by rw[if_pos (by simp_all[bF]<;>omega)] at hstep;exact hstep,by dsimp only;omega,by dsimp only;omega⟩,by dsimp only;omega⟩
       ·refine z2 Z Z c6<|z2 Z Z c6<|z6 Z Z c3<|ak Z c6 Z<|z6 Z Z c2<|ak Z c3 Z<|ai Z c2 Z<|z7<|y7 Z Z<|ze<|bA<|ab Z<|aI Z Z<|aw Z<|z7 ?_
        exact ⟨(p+(Utf8.decode s p).2,n+1),bg,bg,aX,⟨by rw[if_pos (by simp_all[bF]<;>omega)] at hstep;exact hstep,by dsimp only;omega,by dsimp only;omega⟩,by dsimp only;omega⟩
      ·refine z2 Z Z c5<|z2 Z Z c5<|z6 Z Z c3<|ak Z c5 Z<|z6 Z Z c3<|ah Z<|z2 Z Z Z<|z2 Z Z Z<|z6 Z Z c3<|ak Z Z Z<|z6 Z Z c2<|ak Z c3 Z<|ai Z c2 Z<|z7<|y7 Z Z<|ze<|bA<|ab Z<|aI Z Z<|aw Z<|z7 ?_
       exact ⟨(p+(Utf8.decode s p).2,n+1),bg,bg,aX,⟨by rw[if_pos (by simp_all[bF]<;>omega)] at hstep;exact hstep,by dsimp only;omega,by dsimp only;omega⟩,by dsimp only;omega⟩
     ·refine z2 Z Z c4<|z2 Z Z c4<|z6 Z Z c3<|ak Z c4 Z<|z6 Z Z c3<|aJ Z<|z6 Z Z c3<|ah Z<|z6 Z Z Z<|ab Z<|z6 Z Z Z<|aD Z Z<|z6 Z Z c3<|ai Z Z Z<|z6 Z Z c3<|ah Z<|zi (s:=35) Z (fun c8=>?_) (fun c8=>?_)
      ·refine z6 Z Z c8<|ab Z<|z6 Z Z c8<|aD Z Z<|z6 Z Z c3<|ai Z c8 Z<|z6 Z Z c2<|ak Z c3 Z<|ai Z c2 Z<|z7<|zn Z (fun c9=>?_) (fun c9=>?_)
       ·refine aj<|ae Z<|z7<|zd<|zg (x:=.bool _) Z ?_
        rw[if_neg (by simp_all[bF]<;>omega)] at hstep;exact jb hstep
       ·refine ze<|bA<|ab Z<|aI Z Z<|aw Z<|z7 ?_
        exact ⟨(p+(Utf8.decode s p).2,n+1),bg,bg,aX,⟨by rw[if_pos (by simp_all[bF]<;>omega)] at hstep;exact hstep,by dsimp only;omega,by dsimp only;omega⟩,by dsimp only;omega⟩
      ·refine z2 Z Z c8<|z2 Z Z c8<|z6 Z Z c3<|ak Z c8 Z<|z6 Z Z c2<|ak Z c3 Z<|ai Z c2 Z<|z7<|y7 Z Z<|ze<|bA<|ab Z<|aI Z Z<|aw Z<|z7 ?_
       exact ⟨(p+(Utf8.decode s p).2,n+1),bg,bg,aX,⟨by rw[if_pos (by simp_all[bF]<;>omega)] at hstep;exact hstep,by dsimp only;omega,by dsimp only;omega⟩,by dsimp only;omega⟩
   ·refine z2 Z Z c2<|z2 Z Z c2<|z2 Z Z c2<|zb Z Z<|zb Z Z<|zb Z Z<|zb Z Z<|zb Z Z<|zb Z Z<|zb Z Z<|zb Z Z<|zb Z Z<|zb Z Z<|zb Z Z<|zb Z Z<|zb Z Z<|zb Z Z<|zb Z Z<|z2 Z Z c2<|ak Z c2 Z<|z7<|y7 Z Z<|ze<|bA<|ab Z<|aI Z Z<|aw Z<|z7 ?_
    exact ⟨(p+(Utf8.decode s p).2,n+1),bg,bg,aX,⟨by rw[if_pos (by simp_all[bF]<;>omega)] at hstep;exact hstep,by dsimp only;omega,by dsimp only;omega⟩,by dsimp only;omega⟩
  ·refine z2 Z Z c1<|z2 Z Z c1<|ak Z c1 Z<|ae Z<|z7<|za<|aj<|ah Z<|aJ Z<|ah Z<|z6 Z Z Z<|ab Z<|z6 Z Z Z<|aA Z Z<|z6 Z Z Z<|ah Z<|zi (s:=23) Z (fun c10=>?_) (fun c10=>?_)
   ·refine z2 Z Z c10<|z2 Z Z c10<|z2 Z Z c10<|zb Z Z<|zb Z Z<|z2 Z Z c10<|z2 Z Z c10<|z2 Z Z c10<|zb Z Z<|zb Z Z<|z2 Z Z c10<|z2 Z Z c10<|zb Z Z<|zb Z Z<|z2 Z Z c10<|z6 Z Z Z<|ai Z c10 Z<|ai Z Z Z<|z7<|y9 Z Z<|aj<|ae Z<|z7<|zd<|zg (x:=.bool _) Z ?_
    rw[if_neg (by simp_all[bF]<;>omega)] at hstep;exact jb hstep
   ·refine z6 Z Z c10<|ab Z<|z6 Z Z c10<|z8 (Gv.geq Z Z)<|z6 Z Z c10<|ah Z<|zi (s:=26) Z (fun c11=>?_) (fun c11=>?_)
    ·refine z6 Z Z c11<|ab Z<|z6 Z Z c11<|z8 (Gv.leq Z Z)<|z6 Z Z c10<|ai Z c11 Z<|z6 Z Z c10<|aJ Z<|z6 Z Z c10<|ah Z<|zi (s:=31) Z (fun c12=>?_) (fun c12=>?_)
     ·refine z6 Z Z c12<|ab Z<|z6 Z Z c12<|aD Z Z<|z6 Z Z c10<|ai Z c12 Z<|z6 Z Z c10<|ah Z<|zi (s:=35) Z (fun c13=>?_) (fun c13=>?_)
      ·refine z6 Z Z c13<|ab Z<|z6 Z Z c13<|aD Z Z<|z6 Z Z c10<|ai Z c13 Z<|z6 Z Z Z<|ak Z c10 Z<|ai Z Z Z<|z7<|zn Z (fun c14=>?_) (fun c14=>?_)
       ·refine aj<|ae Z<|z7<|zd<|zg (x:=.bool _) Z ?_
        rw[if_neg (by simp_all[bF]<;>omega)] at hstep;exact jb hstep
       ·refine ze<|bA<|ab Z<|aI Z Z<|aw Z<|z7 ?_
        exact ⟨(p+(Utf8.decode s p).2,n+1),bg,bg,aX,⟨by rw[if_pos (by simp_all[bF]<;>omega)] at hstep;exact hstep,by dsimp only;omega,by dsimp only;omega⟩,by dsimp only;omega⟩
      ·refine z2 Z Z c13<|z2 Z Z c13<|z6 Z Z c10<|ak Z c13 Z<|z6 Z Z Z<|ak Z c10 Z<|ai Z Z Z<|z7<|y7 Z Z<|ze<|bA<|ab Z<|aI Z Z<|aw Z<|z7 ?_
       exact ⟨(p+(Utf8.decode s p).2,n+1),bg,bg,aX,⟨by rw[if_pos (by simp_all[bF]<;>omega)] at hstep;exact hstep,by dsimp only;omega,by dsimp only;omega⟩,by dsimp only;omega⟩
     ·refine z2 Z Z c12<|z2 Z Z c12<|z6 Z Z c10<|ak Z c12 Z<|z6 Z Z c10<|ah Z<|z2 Z Z Z<|z2 Z Z Z<|z6 Z Z c10<|ak Z Z Z<|z6 Z Z Z<|ak Z c10 Z<|ai Z Z Z<|z7<|y7 Z Z<|ze<|bA<|ab Z<|aI Z Z<|aw Z<|z7 ?_
      exact ⟨(p+(Utf8.decode s p).2,n+1),bg,bg,aX,⟨by rw[if_pos (by simp_all[bF]<;>omega)] at hstep;exact hstep,by dsimp only;omega,by dsimp only;omega⟩,by dsimp only;omega⟩
    ·refine z2 Z Z c11<|z2 Z Z c11<|z6 Z Z c10<|ak Z c11 Z<|z6 Z Z c10<|aJ Z<|z6 Z Z c10<|ah Z<|z6 Z Z Z<|ab Z<|z6 Z Z Z<|aD Z Z<|z6 Z Z c10<|ai Z Z Z<|z6 Z Z c10<|ah Z<|zi (s:=35) Z (fun c15=>?_) (fun c15=>?_)
     ·refine z6 Z Z c15<|ab Z<|z6 Z Z c15<|aD Z Z<|z6 Z Z c10<|ai Z c15 Z<|z6 Z Z Z<|ak Z c10 Z<|ai Z Z Z<|z7<|zn Z (fun c16=>?_) (fun c16=>?_)
      ·refine aj<|ae Z<|z7<|zd<|zg (x:=.bool _) Z ?_
       rw[if_neg (by simp_all[bF]<;>omega)] at hstep;exact jb hstep
      ·refine ze<|bA<|ab Z<|aI Z Z<|aw Z<|z7 ?_
       exact ⟨(p+(Utf8.decode s p).2,n+1),bg,bg,aX,⟨by rw[if_pos (by simp_all[bF]<;>omega)] at hstep;exact hstep,by dsimp only;omega,by dsimp only;omega⟩,by dsimp only;omega⟩
     ·refine z2 Z Z c15<|z2 Z Z c15<|z6 Z Z c10<|ak Z c15 Z<|z6 Z Z Z<|ak Z c10 Z<|ai Z Z Z<|z7<|y7 Z Z<|ze<|bA<|ab Z<|aI Z Z<|aw Z<|z7 ?_
      exact ⟨(p+(Utf8.decode s p).2,n+1),bg,bg,aX,⟨by rw[if_pos (by simp_all[bF]<;>omega)] at hstep;exact hstep,by dsimp only;omega,by dsimp only;omega⟩,by dsimp only;omega⟩
 ·rw[co,dif_neg hlt] at hp
  refine aj<|aq.nextTover Z .head hlt<|z8 (wA Z Z)<|z7<|za<|y7 Z Z<|zu<|aj<|ab Z<|z8 (Gv.geq Z Z)<|ah Z<|zi (s:=45) Z (fun c17=>?_) (fun c17=>?_)
  ·refine z6 Z Z c17<|ab Z<|z6 Z Z c17<|z8 (Gv.leq Z Z)<|ai Z c17 Z<|ae Z<|z7<|zd<|zg (x:=.bool _) Z ?_
   rw[←hp];exact jb (by simp_all<;>(intros;omega))
  ·refine z2 Z Z c17<|z2 Z Z c17<|ak Z c17 Z<|ae Z<|z7<|zd<|zg (x:=.bool _) Z ?_
   rw[←hp];exact jb (by simp_all<;>(intros;omega))
theorem e7:aQ prog E 42 [] (.fro 3 (dn.map jY)):=by
 refine zk func42 Z (by decide) Z<|aj<|z8 (q6 Z)<|z7<|aj<|z8 (y8 (cps:=[(0,[_]),(1,[_]),(2,[_])]) (rs:=[_,_,_]) db Z Z Z)<|z8 (y8 (cps:=[(0,[_]),(1,[_]),(2,[_])]) (rs:=[_,_,_]) db Z Z Z)<|z8 (y8 (cps:=[(0,[_]),(1,[_]),(2,[_])]) (rs:=[_,_,_]) db Z Z Z)<|z8 (y8 (cps:=[(0,[_]),(1,[_]),(2,[_])]) (rs:=[_,_,_]) db Z Z Z)<|z8 (y8 (cps:=[(0,[_]),(1,[_]),(2,[_])]) (rs:=[_,_,_]) db Z Z Z)<|z8 (y8 (cps:=[(0,[_]),(1,[_]),(2,[_])]) (rs:=[_,_,_]) db Z Z Z)<|z8 (y8 (cps:=[(0,[_]),(1,[_]),(2,[_])]) (rs:=[_,_,_]) db Z Z Z)<|z8 (y8 (cps:=[(0,[_]),(1,[_]),(2,[_])]) (rs:=[_,_,_]) db Z Z Z)<|z8 (y8 (cps:=[(0,[_]),(1,[_]),(2,[_])]) (rs:=[_,_,_]) db Z Z Z)<|z8 (y8 (cps:=[(0,[_]),(1,[_]),(2,[_])]) (rs:=[_,_,_]) db Z Z Z)<|z8 (y8 (cps:=[(0,[_]),(1,[_]),(2,[_])]) (rs:=[_,_,_]) db Z Z Z)<|z8 (y8 (cps:=[(0,[_]),(1,[_]),(2,[_])]) (rs:=[_,_,_]) db Z Z Z)<|z8 (y8 (cps:=[(0,[_]),(1,[_]),(2,[_])]) (rs:=[_,_,_]) db Z Z Z)<|z8 (y8 (cps:=[(0,[_]),(1,[_]),(2,[_])]) (rs:=[_,_,_]) db Z Z Z)<|z8 (y8 (cps:=[(0,[_]),(1,[_]),(2,[_])]) (rs:=[_,_,_]) db Z Z Z)<|z8 (y8 (cps:=[(0,[_]),(1,[_]),(2,[_])]) (rs:=[_,_,_]) db Z Z Z)<|z8 (y8 (cps:=[(0,[_]),(1,[_]),(2,[_])]) (rs:=[_,_,_]) db Z Z Z)<|z8 (y8 (cps:=[(0,[_]),(1,[_]),(2,[_])]) (rs:=[_,_,_]) db Z Z Z)<|z8 (y8 (cps:=[(0,[_]),(1,[_]),(2,[_])]) (rs:=[_,_,_]) db Z Z Z)<|z8 (y8 (cps:=[(0,[_]),(1,[_]),(2,[_])]) (rs:=[_,_,_]) db Z Z Z)<|z8 (y8 (cps:=[(0,[_]),(1,[_]),(2,[_])]) (rs:=[_,_,_]) db Z Z Z)<|z8 (y8 (cps:=[(0,[_]),(1,[_]),(2,[_])]) (rs:=[_,_,_]) db Z Z Z)<|z8 (y8 (cps:=[(0,[_]),(1,[_]),(2,[_])]) (rs:=[_,_,_]) db Z Z Z)<|z8 (y8 (cps:=[(0,[_]),(1,[_]),(2,[_])]) (rs:=[_,_,_]) db Z Z Z)<|z8 (y8 (cps:=[(0,[_]),(1,[_]),(2,[_])]) (rs:=[_,_,_]) db Z Z Z)<|z8 (y8 (cps:=[(0,[_]),(1,[_]),(2,[_])]) (rs:=[_,_,_]) db Z Z Z)<|z8 (y8 (cps:=[(0,[_]),(1,[_]),(2,[_])]) (rs:=[_,_,_]) db Z Z Z)<|yb (rows:=[[_,_,_],[_,_,_],[_,_,_],[_,_,_],[_,_,_],[_,_,_],[_,_,_],[_,_,_],[_,_,_],[_,_,_],[_,_,_],[_,_,_],[_,_,_],[_,_,_],[_,_,_],[_,_,_],[_,_,_],[_,_,_],[_,_,_],[_,_,_],[_,_,_],[_,_,_],[_,_,_],[_,_,_],[_,_,_],[_,_,_],[_,_,_]]) uB Z Z Z Z Z<|z8 (uv Z)<|z7<|zd<|zg (x:=.fro _ _) Z ?_
 rfl
theorem di (k n:Int):aQ prog E 66 [.int .i64 k,.int .i64 n] (.bool (decide (0≤k)&&decide (k<n))):=by
 refine zk func66 Z (by decide) Z<|aj<|ae Z<|z7<|aj<|ab Z<|z8 (Gv.geq Z Z)<|ah Z<|zi (s:=7) Z (fun c18=>?_) (fun c18=>?_)
 ·refine z6 Z Z c18<|ab Z<|z6 Z Z c18<|ab Z<|z6 Z Z c18<|aB Z Z<|ai Z c18 Z<|ae Z<|z7<|zd<|zg (x:=.bool _) Z ?_
  exact jb (by simp_all<;>omega)
 ·refine z2 Z Z c18<|z2 Z Z c18<|z2 Z Z c18<|ak Z c18 Z<|ae Z<|z7<|zd<|zg (x:=.bool _) Z ?_
  exact jb (by simp_all<;>omega)
def xM (l:List UInt8):ByteArray:=⟨l.toArray⟩
end
end Go.Proofs.YtbconpmnckokoaaGreatDoor
