/- The printer's lines of instructions and ends. No conditions but bounds. -/
import Derived.Shelf.Small.Bits
import Derived.Shelf.Strconv.Itoa0
import Derived.Shelf.Sort.Plain
import Derived.Shelf.Unicode.Props
import Derived.Shelf.LaysM
import Derived.Shelf.Unicode.PropsLaid
import Derived.Shelf.Bits.Mul64
import Derived.Shelf.Unicode.Is16White
import Derived.Shelf.Unicode.IsSpaceAny
import Derived.Shelf.Unicode.Is16WhiteD
import Derived.Shelf.Unicode.Is16Any
import Derived.Shelf.Unicode.Is32Any
import Derived.Shelf.Unicode.ExclAny
import Derived.Shelf.Unicode.PredsAny
import Derived.Shelf.Unicode.PredsPay
import Derived.Shelf.Slices.Reverse
import Derived.Ground.Names2Prog
import Derived.Shelf.Slices.Clone
import Derived.Shelf.Slices.SearchI
import Derived.Shelf.Slices.Cells
import Derived.Shelf.Slices.In.SortNone
import Derived.Test.YtdilpodccjlkgaaGreatDoorChecked
import Derived.Test.YtdilpodccjlkgaaGreatDoorLe
import Derived.Test.YtdilpodccjlkgaaGreatDoorLc
import Derived.Test.YtdilpodccjlkgaaGreatDoorLd
import Derived.Lib.ItoaLen
import Derived.Lib.Join
set_option linter.unusedVariables false
set_option linter.unusedSimpArgs false
set_option linter.unusedSectionVars false
namespace Go.Proofs
open Go.Shelf
def Tryz.lays189_ren:Go.Shelf.Ren:=⟨fun|189=>102|125=>138|257=>137|128=>172|129=>173|294=>163|295=>164|296=>165|297=>166|298=>167|299=>168|216=>169|300=>170|301=>171|328=>192|329=>193|330=>194|331=>195|332=>196|215=>197|343=>211|n=>n,fun|28=>23|3=>3|46=>169|0=>0|51=>207|53=>199|4=>4|183=>235|182=>234|131=>189|5=>5|9=>9|218=>268|222=>272|228=>288|229=>110|n=>n,fun|n=>n⟩
theorem Tryz.lays189:Go.Proofs.Lays.n189 prog Tryz.lays189_ren:={
 mixed:=by kernel_rfl
 f125:=func138.trans (congrArg some (by kernel_rfl))
 f128:=func172.trans (congrArg some (by kernel_rfl))
 f129:=func173.trans (congrArg some (by kernel_rfl))
 f189:=func102.trans (congrArg some (by kernel_rfl))
 f215:=func197.trans (congrArg some (by kernel_rfl))
 f216:=func169.trans (congrArg some (by kernel_rfl))
 f257:=func137.trans (congrArg some (by kernel_rfl))
 f294:=func163.trans (congrArg some (by kernel_rfl))
 f295:=func164.trans (congrArg some (by kernel_rfl))
 f296:=func165.trans (congrArg some (by kernel_rfl))
 f297:=func166.trans (congrArg some (by kernel_rfl))
 f298:=func167.trans (congrArg some (by kernel_rfl))
 f299:=func168.trans (congrArg some (by kernel_rfl))
 f300:=func170.trans (congrArg some (by kernel_rfl))
 f301:=func171.trans (congrArg some (by kernel_rfl))
 f328:=func192.trans (congrArg some (by kernel_rfl))
 f329:=func193.trans (congrArg some (by kernel_rfl))
 f330:=func194.trans (congrArg some (by kernel_rfl))
 f331:=func195.trans (congrArg some (by kernel_rfl))
 f332:=func196.trans (congrArg some (by kernel_rfl))
 f343:=func211.trans (congrArg some (by kernel_rfl))
 t0:=underlying0
 a0:=isAgg0
 z0:=sizeOf0
 v0:=zeroValue0
 t3:=underlying3
 a3:=isAgg3
 z3:=sizeOf3
 v3:=zeroValue3
 t4:=underlying4
 a4:=isAgg4
 z4:=sizeOf4
 v4:=zeroValue4
 t5:=underlying5
 a5:=isAgg5
 z5:=sizeOf5
 v5:=zeroValue5
 t9:=underlying9
 a9:=isAgg9
 z9:=sizeOf9
 v9:=zeroValue9
 t28:=underlying23
 a28:=isAgg23
 z28:=sizeOf23
 v28:=zeroValue23
 t46:=underlying169
 a46:=isAgg169
 z46:=sizeOf169
 v46:=zeroValue169
 t51:=underlying207
 a51:=isAgg207
 z51:=sizeOf207
 v51:=zeroValue207
 t53:=underlying199
 a53:=isAgg199
 z53:=sizeOf199
 v53:=zeroValue199
 t131:=underlying189
 a131:=isAgg189
 z131:=sizeOf189
 v131:=zeroValue189
 t182:=underlying234
 a182:=isAgg234
 z182:=sizeOf234
 v182:=zeroValue234
 t183:=underlying235
 a183:=isAgg235
 z183:=sizeOf235
 v183:=zeroValue235
 t218:=underlying268
 a218:=isAgg268
 z218:=sizeOf268
 v218:=zeroValue268
 t222:=underlying272
 a222:=isAgg272
 z222:=sizeOf272
 v222:=zeroValue272
 t228:=underlying288
 a228:=isAgg288
 z228:=sizeOf288
 v228:=zeroValue288
 t229:=underlying110
 a229:=isAgg110
 z229:=sizeOf110
 v229:=zeroValue110 }
open Go.Sort Go.RowKit in
theorem Tryz.slices_Sort_int (blk off cap:Nat) (zs:List Int) (w:World) (hH:Holds (Value.int .i64) w blk off zs.toArray) (hblk:blk<w.heap.size) (hsz:zs.length<4611686018427387904) :
  Calls prog 102 #[.slice (some ⟨blk,off,none⟩) zs.length cap] w fun e w'=>
   e=.returned (.tuple #[])∧∃n os,w'=grow (putRow (Value.int .i64) (Sort.ahead w n) blk off (zs.mergeSort fun x y=>decide (x≤y)).toArray) os:=Any.slices_Sort_int Tryz.lays189 blk off cap zs w hH hblk hsz
def Tryz.lays200_ren:Go.Shelf.Ren:=⟨fun|200=>191|261=>210|311=>218|312=>219|n=>n,fun|21=>21|4=>4|51=>207|5=>5|119=>285|0=>0|141=>287|196=>298|193=>295|3=>3|198=>300|49=>39|194=>296|201=>303|226=>306|46=>169|227=>307|n=>n,fun|7=>0|8=>1|n=>n⟩
theorem Tryz.lays200:Go.Proofs.Lays.n200 prog Tryz.lays200_ren:={
 mixed:=by kernel_rfl
 f200:=func191.trans (congrArg some (by kernel_rfl))
 f261:=func210.trans (congrArg some (by kernel_rfl))
 f311:=func218.trans (congrArg some (by kernel_rfl))
 f312:=func219.trans (congrArg some (by kernel_rfl))
 t0:=underlying0
 a0:=isAgg0
 z0:=sizeOf0
 v0:=zeroValue0
 t3:=underlying3
 a3:=isAgg3
 z3:=sizeOf3
 v3:=zeroValue3
 t4:=underlying4
 a4:=isAgg4
 z4:=sizeOf4
 v4:=zeroValue4
 t5:=underlying5
 a5:=isAgg5
 z5:=sizeOf5
 v5:=zeroValue5
 t21:=underlying21
 a21:=isAgg21
 z21:=sizeOf21
 v21:=zeroValue21
 t46:=underlying169
 a46:=isAgg169
 z46:=sizeOf169
 v46:=zeroValue169
 t49:=underlying39
 a49:=isAgg39
 z49:=sizeOf39
 v49:=zeroValue39
 t51:=underlying207
 a51:=isAgg207
 z51:=sizeOf207
 v51:=zeroValue207
 t119:=underlying285
 a119:=isAgg285
 z119:=sizeOf285
 t141:=underlying287
 a141:=isAgg287
 z141:=sizeOf287
 v141:=zeroValue287
 t193:=underlying295
 a193:=isAgg295
 z193:=sizeOf295
 v193:=zeroValue295
 t194:=underlying296
 a194:=isAgg296
 z194:=sizeOf296
 v194:=zeroValue296
 t196:=underlying298
 a196:=isAgg298
 z196:=sizeOf298
 v196:=zeroValue298
 t198:=underlying300
 a198:=isAgg300
 z198:=sizeOf300
 v198:=zeroValue300
 t201:=underlying303
 a201:=isAgg303
 z201:=sizeOf303
 v201:=zeroValue303
 t226:=underlying306
 a226:=isAgg306
 z226:=sizeOf306
 v226:=zeroValue306
 t227:=underlying307
 a227:=isAgg307
 z227:=sizeOf307
 v227:=zeroValue307
 g7:=by kernel_rfl
 g8:=by kernel_rfl }
def Tryz.lays264_ren:Go.Shelf.Ren:=⟨fun|264=>135|n=>n,fun|53=>199|46=>169|n=>n,fun|n=>n⟩
theorem Tryz.lays264:Go.Proofs.Lays.n264 prog Tryz.lays264_ren:={
 mixed:=by kernel_rfl
 f264:=func135.trans (congrArg some (by kernel_rfl))
 t46:=underlying169
 a46:=isAgg169
 z46:=sizeOf169
 v46:=zeroValue169
 t53:=underlying199
 a53:=isAgg199
 z53:=sizeOf199
 v53:=zeroValue199 }
open Go.RowKit Go.Lib in
theorem Tryz.bits_Mul64 (x y:Nat) (hx:x<18446744073709551616) (hy:y<18446744073709551616) (w:World) :
  Calls prog 135 #[.int .u64 x,.int .u64 y] w fun e w'=>e=.returned (.tuple #[.int .u64 ((x*y / 18446744073709551616:Nat):Int),.int .u64 ((x*y % 18446744073709551616:Nat):Int)])∧w'=w:=Any.bits_Mul64 Tryz.lays264 x y hx hy w
def Tryz.lays212_ren:Go.Shelf.Ren:=⟨fun|212=>100|263=>134|264=>135|n=>n,fun|46=>169|51=>207|146=>208|53=>199|148=>210|n=>n,fun|n=>n⟩
theorem Tryz.lays212:Go.Proofs.Lays.n212 prog Tryz.lays212_ren:={
 mixed:=by kernel_rfl
 f212:=func100.trans (congrArg some (by kernel_rfl))
 f263:=func134.trans (congrArg some (by kernel_rfl))
 f264:=func135.trans (congrArg some (by kernel_rfl))
 t46:=underlying169
 a46:=isAgg169
 z46:=sizeOf169
 v46:=zeroValue169
 t51:=underlying207
 a51:=isAgg207
 z51:=sizeOf207
 v51:=zeroValue207
 t53:=underlying199
 a53:=isAgg199
 z53:=sizeOf199
 v53:=zeroValue199
 t146:=underlying208
 a146:=isAgg208
 z146:=sizeOf208
 v146:=zeroValue208
 t148:=underlying210
 a148:=isAgg210
 z148:=sizeOf210
 v148:=zeroValue210 }
open Go.RowKit Go.Lib in
theorem Tryz.bits_Mul (x y:Nat) (hx:x<18446744073709551616) (hy:y<18446744073709551616) (w:World) :
  Calls prog 100 #[.int .u64 x,.int .u64 y] w fun e w'=>e=.returned (.tuple #[.int .u64 ((x*y / 18446744073709551616:Nat):Int),.int .u64 ((x*y % 18446744073709551616:Nat):Int)])∧w'=w:=Any.bits_Mul Tryz.lays212 x y hx hy w
open Go.RowKit Go.Lib in
theorem Tryz.unicode_IsLetter_all (r:Int) (w:World) (hlo:-2147483648≤r) (hhi:r≤2147483647) (htab:Lib.TabIs prog w "unicode.properties" .u8 Lib.propertiesTab) (hV:RVar 1 letterT w) :
  Calls prog 191 #[.int .i32 r] w fun e w'=>e=.returned (.bool (isLetterU r))∧Below w.heap.size w w':=Any.unicode_IsLetter_all Tryz.lays200 (by kernel_rfl) r w hlo hhi htab hV
def Tryz.lays112_ren:Go.Shelf.Ren:=⟨fun|112=>133|n=>n,fun|28=>23|3=>3|4=>4|0=>0|n=>n,fun|n=>n⟩
theorem Tryz.lays112:Go.Proofs.Lays.n112 prog Tryz.lays112_ren:={
 mixed:=by kernel_rfl
 f112:=func133.trans (congrArg some (by kernel_rfl))
 t0:=underlying0
 a0:=isAgg0
 z0:=sizeOf0
 v0:=zeroValue0
 t3:=underlying3
 a3:=isAgg3
 z3:=sizeOf3
 v3:=zeroValue3
 t4:=underlying4
 a4:=isAgg4
 z4:=sizeOf4
 v4:=zeroValue4
 t28:=underlying23
 a28:=isAgg23
 z28:=sizeOf23
 v28:=zeroValue23 }
open Go.RowKit Go.Lib Go.Sort in
theorem Tryz.slices_Reverse_int (blk off cap:Nat) (zs:List Int) (w:World) (hH:Holds (Value.int .i64) w blk off zs.toArray) (hsz:zs.length≤9223372036854775807) :
  Calls prog 133 #[.slice (some ⟨blk,off,none⟩) zs.length cap] w fun e w'=>e=.returned (.tuple #[])∧∃n,w'=putRow (Value.int .i64) (Sort.ahead w n) blk off zs.reverse.toArray:=Any.slices_Reverse_int Tryz.lays112 blk off cap zs w hH hsz
open Go.RowKit Go.Lib Go.Sort in
theorem Tryz.slices_Reverse_int_empty (a:Option Addr) (cap:Nat) (w:World) :
  Calls prog 133 #[.slice a 0 cap] w fun e w'=>e=.returned (.tuple #[])∧w'=w:=Any.slices_Reverse_int_empty Tryz.lays112 a cap w
open Go.RowKit Go.Sort in
theorem Tryz.slices_Sort_int_none (p:Option Addr) (cap:Nat) (w:World) :
  Calls prog 102 #[.slice p 0 cap] w fun e w'=>e=.returned (.tuple #[])∧w'=w:=Any.slices_Sort_int_none Tryz.lays189 p cap w
end Go.Proofs
namespace Go.Proofs.YtdilpodccjlkgaaGreatDoor
open Go.Proofs.Tryz
open Go.Proofs
variable {E:World}
set_option maxRecDepth 20000
theorem sq (l:List Int) (i:Nat) (T:TypeId) (hl:l.length≤200000):aU prog E 133 [.own i l.length] [(i,.grow 1 T (cI l))] fun r O=>r=.tup []∧O=[(i,.grow 1 T (cI l.reverse))]:=
 aU.turned (g:=List.reverse) (B:=200001) func133 rfl (by decide) (fun l=>List.length_reverse) (fun blk cap zs w hH _ hz=>(Tryz.slices_Reverse_int blk 0 cap zs w hH (by omega)).mono fun e w' ⟨h1,n,h2⟩=>⟨h1,n,#[],by rw[h2,Go.Sort.grow_empty]⟩)
  (fun cap w=>Tryz.slices_Reverse_int_empty none cap w) rfl (by omega)
theorem sr (l:List Int) (i:Nat) (T:TypeId) (hl:l.length≤200000):aU prog E 102 [.own i l.length] [(i,.grow 1 T (cI l))] fun r O=>r=.tup []∧O=[(i,.grow 1 T (cI (iN l)))]:=
 aU.turned (g:=iN) (B:=200001) func102 rfl (by decide) (fun l=>(ec l).length_eq) (fun blk cap zs w hH hb hz=>Tryz.slices_Sort_int blk 0 cap zs w hH hb (by omega))
  (fun cap w=>Tryz.slices_Sort_int_none none cap w) rfl (by omega)
theorem aI.ofSame {E:World} {P:Program} {f:FuncId} {fn:Func} {c:Code} {ars:List AV} {vs:List Value} {r:Value} {x:AV} (hf:P.funcs[f]?=some fn) (hb:fn.body=some c) (hn:fn.name≠"runtime.NumGoroutine") (has:ars=vs.map lit)
  (h:∀w,Calls P f vs.toArray w fun e w'=>e=.returned r∧w'=w) (hr:∀I,bg I x r):aI P E f ars x:=fun I F w us h1 h2=>by
 subst has
 rw[jX h1]
 refine Fn.ofCalls hf hb hn ?_
 exact (h w).mono fun e w' ⟨he,hw⟩=>⟨_,he,I,x,[],.refl _,hr I,by rw[hw];exact h2,rfl⟩
theorem wE (x y:Nat) (hx:x<18446744073709551616) (hy:y<18446744073709551616):aI prog E 100 [.int .u64 (x:Int),.int .u64 (y:Int)] (.tup [.int .u64 ((x*y / 18446744073709551616:Nat):Int),.int .u64 ((x*y % 18446744073709551616:Nat):Int)]):=
 aI.ofSame (vs:=[.int .u64 x,.int .u64 y]) func100 rfl (by decide) rfl (fun w=>Tryz.bits_Mul x y hx hy w) (fun I=>⟨_,rfl,_,_,rfl,rfl,_,_,rfl,rfl,rfl⟩)
theorem uh (x y:Nat) (hx:x<18446744073709551616) (hy:y<18446744073709551616):aI prog E 135 [.int .u64 (x:Int),.int .u64 (y:Int)] (.tup [.int .u64 ((x*y / 18446744073709551616:Nat):Int),.int .u64 ((x*y % 18446744073709551616:Nat):Int)]):=
 aI.ofSame (vs:=[.int .u64 x,.int .u64 y]) func135 rfl (by decide) rfl (fun w=>Tryz.bits_Mul64 x y hx hy w) (fun I=>⟨_,rfl,_,_,rfl,rfl,_,_,rfl,rfl,rfl⟩)
def tL (v:Int) (n k:Nat):List Value:=List.replicate k (.int .i64 v)++List.replicate (n - k) (.int .i64 0)
theorem vz {v:Int} {n k:Nat} (h:k≤n):(tL v n k).length=n:=by unfold tL;simp;omega
theorem ss {v:Int} {n k q:Nat} (h:q≤k):(tL v n k).take q=List.replicate q (.int .i64 v):=by unfold tL;rw[List.take_append_of_le_length (by simp;exact h),List.take_replicate,Nat.min_eq_left h]
theorem yU {v:Int} {n k q:Nat} (h:k+q≤n):(tL v n k).take k++List.replicate q (.int .i64 v)++(tL v n k).drop (k+q)=tL v n (k+q):=by
 rw[ss (Nat.le_refl _)]
 unfold tL
 rw[List.drop_append,List.drop_eq_nil_of_le (by simp),List.length_replicate,List.drop_replicate,List.replicate_append_replicate,List.nil_append]
 congr 2
 omega
theorem Bp {v:Int} {n k:Nat}:∀u∈tL v n k,u.oneCell'=true:=fun u hu=>by
 unfold tL at hu
 rcases List.mem_append.1 hu with h|h
 ·rw[List.eq_of_mem_replicate h];rfl
 ·rw[List.eq_of_mem_replicate h];rfl
theorem yV (v:Int) (n:Nat):(tL v n n).map lit=cI (List.replicate n v):=by unfold tL cI;simp[lit]
theorem Bq {I:G} {k:IntKind} {v:Int} {x:Value} (h:bg I (.fro 1 [[.int k v]]) x):∃b off c,x=.slice (some ⟨b,off,none⟩) 1 c∧xH I.k b off (.int k v):=by
 obtain ⟨a,n,c,e,hn,_,_,⟨b,off,vs,ea,hl,hr,hk⟩,_⟩:=h
 obtain ⟨u,us,rfl,hu,_⟩:=hr
 have hu:u=.int k v:=hu
 subst ea hu
 simp only[List.length_cons,List.length_nil] at hn
 subst hn
 exact ⟨b,off,c,e,by have:=hk 0 _ rfl;simpa using this⟩
theorem C5 {env:aM} {O:OL} {y:Operand} {k:IntKind} {v:Int} (hy:aP env y=.fro 1 [[.int k v]]):∀I F ρ w,d4 I env ρ→f8 I O F E w→∃a sc,ev ρ y=.slice (some a) 1 sc∧∀j u,([Value.int k v]:List Value)[j]?=some u→w.cell? (a.add j)=some u:=fun I F ρ w h1 h2=>by
 have h:=h1.ev y
 rw[hy] at h
 obtain ⟨b,off,c,e,hk⟩:=Bq h
 obtain ⟨_,L,_,hS⟩:=h2
 refine ⟨⟨b,off,none⟩,c,e,fun j u hj=>?_⟩
 cases j with
 |zero=>simp at hj;subst hj;rw[cV];exact hS.at_ (hk.at_ _)
 |succ j=>simp at hj
theorem C6 {env:aM} {O O':OL} {y:Operand} {b n c:Nat} {T:TypeId} {vs cs:List Value} (hy:aP env y=Be b 0 n c) (hO:cY O 0 (wn b T vs) O') (hc:∀(j:Nat) u,cs[j]?=some u→vs[j]?=some u):∀I F ρ w,d4 I env ρ→f8 I O F E w→∃a sc,ev ρ y=.slice (some a) n sc∧∀j u,cs[j]?=some u→w.cell? (a.add j)=some u:=fun I F ρ w h1 h2=>by
 have h:=eQ h1 hy
 obtain ⟨_,L,hL,hS⟩:=h2
 obtain ⟨A,B,hp,hA,hB⟩:=hO.rep hL
 have hA:A=[(b,.cells vs.toArray T (0,0))]:=hA
 subst hA
 have hS2:SL I.k ((b,.cells vs.toArray T (0,0))::(B++F)) E w:=hS.perm ((hp.append_right F).symm)
 refine ⟨⟨b,0,none⟩,c,h,fun j u hj=>?_⟩
 rw[cV,hS2.cell_own,List.getElem?_toArray,Nat.zero_add]
 exact hc j u hj
theorem aK (v:Int) (n:Nat) (hn:n≤100000) (h0:0<n):aU prog E 60 [.fro 1 ([v].map cE),.int .i64 n] [] (fun x O'=>∃i:Nat,x=.own i n∧O'=[(i,.grow 1 3 (cI (List.replicate n v)))]):=by
 have hw:IntKind.wrap .u64 (n:Int)=n:=by unfold IntKind.wrap;simp[IntKind.bits,IntKind.signed];omega
 have hm:(1*n / 18446744073709551616:Nat)=0:=by omega
 have hm2:(1*n % 18446744073709551616:Nat)=n:=by omega
 refine zo func60 Z (by decide) Z ?_
 have hmul:aI prog E 100 [.int .u64 1,.int .u64 (IntKind.wrap .u64 (n:Int))] (.tup [.int .u64 0,.int .u64 (n:Int)]):=by
  have:=wE (E:=E) 1 n (by omega) (by omega)
  rw[hm,hm2] at this
  rw[hw];exact this
 refine ah<|za (iR Z)<|z6<|zd<|ah<|aa Z<|aw Z Z<|z6<|ye Z (by simp)<|zg<|ah<|bb Z<|ap wx Z<|za (Gv.conv Zp Ym Z)<|aa Z<|za (Gv.conv Zp Ym Z)<|zf (hmul) Z<|za (iW Z)<|za (iJ Z Z)<|za (iJ Z Z)<|ao Z<|ao Z<|z6<|zd<|ah<|aa Z<|za (yx Z Z)<|ai Z<|z8 Z Z (by decide)<|aa Z<|z8 Z Z (by decide)<|za (yx Z Z)<|za (qD Z (by decide) Z)<|z6<|ye Z (by simp;omega)<|zg<|ah<|aa Z<|za (Gv.conv Ym Zp Z)<|ax.makeRow (m:=n) wx type3 Z Z Z Z Z (by show IntKind.wrap .i64 (n:Int)=n;unfold IntKind.wrap;simp[IntKind.bits,IntKind.signed];omega) (by show IntKind.wrap .i64 (n:Int)=n;unfold IntKind.wrap;simp[IntKind.bits,IntKind.signed];omega) (by show (8:Int)*_≤_;omega) (by omega)<|fun b=>za (iR Z) ?_
 refine z6<|ah<|za (yr (v:=.raw _) Z)<|bb Z<|ax.copyRow (cs:=[.int .i64 v]) (q:=1) wx Z Z Z (Nat.min_eq_left h0).symm .head (by rw[List.length_replicate];omega) (by simp[Value.oneCell']) (C5 Z) ?_
 have hstart:(List.replicate n (Value.int .i64 0)).take 0++[Value.int .i64 v]++(List.replicate n (Value.int .i64 0)).drop (0+1)=tL v n 1:=by unfold tL;simp[List.drop_replicate]
 rw[hstart]
 refine ao Z<|z6<|zd<|zj<|y8 (γ:=Nat) [7] (fun k=>[(8,.int .i64 k)]) (fun k=>[(0,wn b 3 (tL v n k))]) (fun k=>1≤k∧k≤n) (fun k=>n - k) 1 aJ aE (⟨Nat.le_refl _,h0⟩) ?_
 rintro k ⟨hk1,hk⟩
 refine zd<|ah<|aa Z<|za (yr (v:=.raw _) Z)<|za (Gv.lenRow wx Z)<|aw Z Z<|z6<|zw Z (fun ck=>?_) (fun ck=>?_)
 ·have hk2:k<n:=by simp at ck;omega
  obtain ⟨q,hq⟩:∃q,q=min k (n - k):=⟨_,rfl⟩
  have hq1:0<q∧q≤k∧k+q≤n:=by omega
  refine zg<|zj<|zt (fun j=>false) (by kernel_rfl) Z (zm (.rest _))<|aj 0 Z (dF Z)<|aj 1 Z (yr (v:=.raw _) Z)<|aj 2 Z (dF Z)<|aj 3 Z (Gv.rowLo (j:=k) wx wz Z Z Z (by omega) (by omega) (by omega))<|aj 4 Z (yr (v:=.raw _) Z)<|aj 5 Z (dF Z)<|aj 6 Z (Gv.rowHi (j:=k) wx wz Z Z Z (by omega))<|aY 7 Z<|ax.copyRow (cs:=List.replicate q (.int .i64 v)) (q:=q) wx Z Z (List.length_replicate ..) hq .head (by rw[vz hk];omega) (fun u hu=>by rw[List.eq_of_mem_replicate hu];rfl) (C6 (vs:=tL v n k) Z .head (fun j u hj=>by rw[←ss (v:=v) (n:=n) hq1.2.1,List.getElem?_take] at hj;split at hj;exact hj;cases hj)) ?_
  rw[yU hq1.2.2]
  refine z6<|aj 8 Z (Co Z Z)<|aj 9 Z (oZ Z)<|bV ?_
  exact ⟨k+q,aJ,aJ,aE,⟨by omega,hq1.2.2⟩,by omega⟩
 ·have hkn:k=n:=by simp at ck;omega
  subst hkn
  refine y7<|ah<|za (yr (v:=.raw _) Z)<|za (iR Z)<|z6<|dk.rowOwn (t:=4) Z .head (vz (Nat.le_refl _)) Bp (fun i=>?_)
  rw[yV]
  refine zh<|zk (x:=.own _ _) Z ?_
  exact ⟨i,rfl,rfl⟩
end Go.Proofs.YtdilpodccjlkgaaGreatDoor
namespace Go.Proofs.YtdilpodccjlkgaaGreatDoor
open Go.Proofs.Tryz
open Go.Proofs
theorem DX:de prog 265 #[(0,2),(2,1)] [.int .i64 0,.int .i64 0,.bool false]:=⟨_,_,Yr,zeroValue265,fun w=>by kernel_rfl,rfl⟩
theorem Cz:lh prog 281 1 [.int .i64 0,.int .i64 0]:=⟨_,_,_,underlying281,zeroValue281,Zo,rfl⟩
variable {E:World}
set_option maxRecDepth 20000
theorem EP {x y:Int} (hx:dG x) (hy:dG y):aI prog E 209 [.int .i64 x,.int .i64 y] (.tup [.int .i64 (IntKind.i64.wrap (x*y)),.bool (decide (e8 2 x y))]):=by
 rw[←EM]
 refine zo func209 Z (by decide) Z<|ah<|ao Z<|ab Z<|z6<|ah<|aa Z<|zf (DW hx) Z<|aa Z<|zf (DW hy) Z<|zf (uh _ _ (x8 hx) (x8 hy)) Z<|za (iW Z)<|za (iJ Z Z)<|za (iJ Z Z)<|ao Z<|ao Z<|z6<|ah<|ao Z<|z6<|zd<|ah<|aa Z<|aw Z Z<|aa Z<|aw Z Z<|za (Gv.neqB Zy Z Z)<|z6<|yg (γ:=Int) [0,1,6,7] (fun m=>[(8,.int .u64 m)]) (fun m=>[]) (fun m=>m=if (!(decide (x<0) == decide (y<0)))=true then 9223372036854775808 else 9223372036854775807) ?_ (fun _ _ h=>h) ?_
 ·refine zu Z (fun c1=>?_) (fun c1=>?_)
  ·refine aV<|aa Z<|za (Gv.addW Z Z)<|ao Z<|z6 ?_
   exact ⟨_,iS,aJ,aE,by simp_all<;>first|rfl|decide⟩
  ·refine zg ?_
   exact ⟨_,iS,aJ,aE,by simp_all<;>first|rfl|decide⟩
 ·rintro m hm
  subst hm
  refine ah<|aa Z<|aa Z<|za (Gv.mulW Z Z)<|aa Z<|ak Z Z<|ai Z<|zp (s:=29) Z (fun c2=>?_) (fun c2=>?_)
  ·refine z8 Z Z c2<|aa Z<|z8 Z Z c2<|aa Z<|z8 Z Z c2<|za (Gv.leq Z Z)<|ar Z c2 Z<|ao Z<|ab Z<|z6<|zh<|qc (x:=.int _ _) (y:=.bool _) Z Z ?_
   simp_all
  ·refine z7 Z Z c2<|z7 Z Z c2<|z7 Z Z c2<|au Z c2 Z<|ao Z<|ab Z<|z6<|zh<|qc (x:=.int _ _) (y:=.bool _) Z Z ?_
   simp_all
theorem nR (i:Nat) (h:e7 × Bool) (n:Int) (fits:Bool) (e:Int):aU prog E 206 [.po i 0,.int .i64 n,.bool fits,.int .i64 e] [(i,.cells 265 (wm h))] fun r O=>r=.tup []∧O=[(i,.cells 265 (wm (mK h n fits e)))]:=by
 refine zo func206 Z (by decide) Z<|zd<|ah<|ai Z<|aD Z<|z6<|yg (γ:=Int × Bool) [0] (fun g=>[(1,.int .i64 g.1)]) (fun g=>[(i,.cells 265 (wm (h.1,g.2)))]) (fun g=>g.1=(if fits then n else e)∧g.2=(h.2||!fits)) ?_ (fun _ _ h=>h) ?_
 ·refine zu Z (fun c=>?_) (fun c=>?_)
  ·refine aV<|aR Z<|aa Z<|az Z<|za (zn Yr Z Zj (by decide) Z Z)<|yv (l:=[_]) (new:=[_,_,_]) Zj Z Z Z Z Z Z .head Z Z<|ao Z<|z6 ?_
   exact ⟨(e,true),aJ,aJ,aE,by simp_all⟩
  ·refine zg ?_
   exact ⟨(n,h.2),aJ,aJ,aE,by simp_all⟩
 ·rintro ⟨m,w⟩ ⟨h1,h2⟩
  dsimp only at h1 h2
  subst h1 h2
  refine zt (fun j=>Nat.beq j 10) (by kernel_rfl) Z (zm (.r (.rest _)))<|aj 0 Z (eF Z)<|aj 1 Z (eF Z)<|aj 2 Z (yb Z)<|aj 3 Z (zn Yr Z Z3 (by decide) Z Z)<|aj 4 Z (Gv.loadAC (l:=[_,_]) Zr Z3 Z ⟨_,.head⟩ Z Z)<|aj 5 Z (dF Z)<|aY 6 Z<|zf (Fh _) Z<|z6<|aY 7 Z<|zf (DV _ _) Z<|z6<|q5 (i:=8) Z (by kernel_rfl) (by kernel_rfl) (by kernel_rfl) (by kernel_rfl) (yb Z)<|aj 9 Z (zn Yr Z Z3 (by decide) Z Z)<|ym<|yk (i:=10) Z (by kernel_rfl) (by kernel_rfl)<|yv (l:=[_,_]) (new:=[_,_,_]) Z3 Z Z Z Z Z Z .head Z Z<|z6<|yq (by kernel_rfl)<|yp ?_
  exact ⟨rfl,rfl⟩
set_option maxHeartbeats 4000000 in
theorem su (op:Int) (k:Nat) (hk:k≤2) (hop:op=2+(k:Int)) {a b:e7} (ha:lk a) (hb:lk b):aI prog E 190 [.int .i64 op,.agg (lR a),.agg (lR b)] (.agg (wm (vm k a b))):=by
 obtain ⟨st,hst⟩:∃st,DQ (AR k) (fun x y=>decide (e8 k x y)) (ns k) (AQ,false) a b=st:=⟨_,rfl⟩
 have hstep:∀(i j:Nat),j<2→st (2*i+(j+1))=mK (st (2*i+j)) (AR k (fO a i) (fO b j)) (decide (e8 k (fO a i) (fO b j))) (ns k (fO a i) (fO b j)):=fun i j hj=>by rw[←hst];exact xX i hj
 have h4:st 4=vm k a b:=by rw[←hst];rfl
 have h0:st 0=(AQ,false):=by rw[←hst];rfl
 refine zo func190 Z (by decide) Z<|ah<|ya (cs:=_) Z Z Z<|ya (cs:=_) Z Z Z<|y5 (cs:=[.int .i64 0,.int .i64 0,.bool false]) zeroValue265 Z Z<|fun i6=>z6<|ah<|zf (Cw) Z<|za (y4 (cps:=[(0,[_,_])]) (rs:=[_,_,.bool false]) DX Z Z Z)<|y5 (cs:=[.int .i64 0,.int .i64 0,.bool false]) zeroValue265 Z Z<|fun i7=>zz sizeOf265 Z Z Z Z Z Z .head Z<|z6<|zd<|ah<|aq Zq Z Zo Z Z<|ay Zz Z<|aq Zq Z Zo Z Z<|ay Zz Z<|za (Gv.buildA (cps:=[(0,[_]),(1,[_])]) (rs:=[_,_]) Cz Z Z Z)<|aa Z<|z6<|zj<|y8 (γ:=Nat) [0,5,6,7,24] (fun i=>[(25,.int .i64 i)]) (fun i=>[(i7,.cells 265 (wm (st (2*i)))),(i6,.cells 265 [.int .i64 0,.int .i64 0,.bool false])]) (fun i=>i≤2) (fun i=>2 - i) 0 aJ ⟨_,(.refl _),by rw[h0];rfl⟩ ((by omega)) ?_
 rintro i hi
 refine ah<|aw Z Z<|z6<|zd<|zw Z (fun ci=>?_) (fun ci=>?_)
 ·have hi2:i<2:=by omega
  have hx:=xW ha i
  refine zg<|zd<|zj<|ah<|za (Gv.index1 (n:=2) (j:=i) (cs:=[.int .i64 a.1,.int .i64 a.2]) (v:=.int .i64 (fO a i)) underlying281 Zz Zo Z Z Z hi2 (vn hi2))<|ao Z<|z6<|ah<|aq Zq Z Zo Z Z<|ay Zz Z<|aq Zq Z Zo Z Z<|ay Zz Z<|za (Gv.buildA (cps:=[(0,[_]),(1,[_])]) (rs:=[_,_]) Cz Z Z Z)<|aa Z<|z6<|zj<|y8 (γ:=Nat) [0,5,6,7,9,24,25,32] (fun j=>[(33,.int .i64 j)]) (fun j=>[(i7,.cells 265 (wm (st (2*i+j)))),(i6,.cells 265 [.int .i64 0,.int .i64 0,.bool false])]) (fun j=>j≤2) (fun j=>2 - j) 0 aJ aE ((by omega)) ?_
  rintro j hj
  refine ah<|aw Z Z<|z6<|zd<|zw Z (fun cj=>?_) (fun cj=>?_)
  ·have hj2:j<2:=by omega
   have hy:=xW hb j
   have hs:=hstep i j hj2
   refine zg<|zd<|zj<|ah<|za (Gv.index1 (n:=2) (j:=j) (cs:=[.int .i64 b.1,.int .i64 b.2]) (v:=.int .i64 (fO b j)) underlying281 Zz Zo Z Z Z hj2 (vn hj2))<|ao Z<|z6<|ah<|aa Z<|z6<|zj<|ah<|ak Z Z<|ab Z<|z6<|zw Z (fun c2=>?_) (fun c2=>?_)
   ·have hk0:k=0:=by omega
    subst hk0
    refine ah<|aa Z<|aa Z<|zf (EN hx hy) Z<|za (iW Z)<|za (iJ Z Z)<|za (ij Z Z)<|ao Z<|ab Z<|z6<|aV<|aa Z<|ai Z<|aa Z<|aw Z Z<|zf (yI _) Z<|zr Z (zm (.l (.r (.rest _)))) (nR i7 _ _ _ _) ?_
    rintro r50 O50 ⟨rfl,rfl⟩
    refine z6<|aV<|aC Z Z<|aa Z<|z6 ?_
    exact ⟨j+1,vh,aJ,⟨_,(.refl _),by rw[hs,nu Bc (CP _ (fO b j))];rfl⟩,hj2,by omega⟩
   ·refine ah<|ak Z Z<|ab Z<|z6<|zw Z (fun c3=>?_) (fun c3=>?_)
    ·have hk0:k=1:=by omega
     subst hk0
     refine ah<|aa Z<|aa Z<|zf (EO hx hy) Z<|za (iW Z)<|za (iJ Z Z)<|za (ij Z Z)<|ao Z<|ab Z<|z6<|aV<|aa Z<|ai Z<|aa Z<|aw Z Z<|zf (yI _) Z<|zr Z (zm (.l (.r (.rest _)))) (nR i7 _ _ _ _) ?_
     rintro r64 O64 ⟨rfl,rfl⟩
     refine z6<|aV<|aC Z Z<|aa Z<|z6 ?_
     exact ⟨j+1,vh,aJ,⟨_,(.refl _),by rw[hs,nu Bd (CQ _ (fO b j))];rfl⟩,hj2,by omega⟩
    ·refine ah<|ak Z Z<|ab Z<|z6<|zw Z (fun c4=>?_) (fun c4=>?_)
     ·have hk0:k=2:=by omega
      subst hk0
      refine ah<|aa Z<|aa Z<|zf (EP hx hy) Z<|za (iW Z)<|za (iJ Z Z)<|za (ij Z Z)<|ao Z<|ab Z<|z6<|aV<|aa Z<|ai Z<|aa Z<|aw Z Z<|aa Z<|aw Z Z<|za (Gv.neqB Zy Z Z)<|zf (yI _) Z<|zr Z (zm (.l (.r (.rest _)))) (nR i7 _ _ _ _) ?_
      rintro r81 O81 ⟨rfl,rfl⟩
      refine z6<|aV<|aC Z Z<|aa Z<|z6 ?_
      exact ⟨j+1,vh,aJ,⟨_,(.refl _),by rw[hs,nu xY (CR _ (fO b j))];rfl⟩,hj2,by omega⟩
     ·exfalso;omega
  ·have hj2:j=2:=by omega
   subst hj2
   refine y7<|aV<|aC Z Z<|aa Z<|z6 ?_
   exact ⟨i+1,wi,aJ,⟨_,(.refl _),by rw[show 2*(i+1)=2*i+2 by omega]⟩,hi2,by omega⟩
 ·have hi2:i=2:=by omega
  subst hi2
  refine y7<|ah<|za (Gv.loadWC isAgg265 sizeOf265 Z ⟨_,.head⟩ Z)<|zz sizeOf265 Z Z Z Z Z Z .t1 Z<|z6<|zh<|dx.c1 Z ⟨_,.t1⟩ isAgg265 sizeOf265 Z ?_
  rw[←h4];try rfl
end Go.Proofs.YtdilpodccjlkgaaGreatDoor
namespace Go.Proofs.YtdilpodccjlkgaaGreatDoor
open Go.Proofs.Tryz
def lv (l:List e7) (v:Int):e7:=(l[v.toNat]?).getD AQ
structure DY (n:Nat) (rule:List e7→Int→e7) (vs:List Int):Prop where
 mono:∀l l' v,l.length=n→l'.length=n→(∀u:Int,0≤u→DP (lv l u) (lv l' u))→(∀u:Int,0≤u→lk (lv l u))→(∀u:Int,0≤u→lk (lv l' u))→v∈vs→DP (rule l v) (rule l' v)
 ok:∀l v,l.length=n→(∀u:Int,0≤u→lk (lv l u))→v∈vs→lk (rule l v)
 rng:∀v∈vs,0≤v∧v<n
end Go.Proofs.YtdilpodccjlkgaaGreatDoor
namespace Go.Proofs.YtdilpodccjlkgaaGreatDoor
open Go.Proofs.Tryz
section
variable {n:Nat} {rule:List e7→Int→e7} {widn:Nat→Int→Option e7} {vs:List Int} (hR:DY n rule vs) (hw:∀i v t,widn i v=some t→lk t)
include hR hw
end
end Go.Proofs.YtdilpodccjlkgaaGreatDoor
namespace Go.Proofs.YtdilpodccjlkgaaGreatDoor
open Go.Proofs.Tryz
end Go.Proofs.YtdilpodccjlkgaaGreatDoor
namespace Go.Proofs.YtdilpodccjlkgaaGreatDoor
open Go.Proofs.Tryz
open Go.Proofs
variable {E:World}
set_option maxRecDepth 20000
theorem DZ (op:Int) (k:Nat) (hk:k≤2) (hop:op=2+(k:Int)) {a b:e7} (ha:lk a) (hb:lk b):aI prog E 158 [.int .i64 op,.agg (lR a),.agg (lR b)] (.bool (decide (a.2<a.1∨b.2<b.1∨kB k a b))):=by
 have hcp:=rW k a b
 refine zo func158 Z (by decide) Z<|ah<|ya (cs:=_) Z Z Z<|ya (cs:=_) Z Z Z<|ab Z<|z6<|zd<|zd<|yg (γ:=Bool) [0,4,5] (fun u=>[(12,.bool u)]) (fun u=>[]) (fun u=>u=false) ?_ (fun _ _ h=>h) ?_
 ·refine aV<|aa Z<|za (q3 Z Z)<|ai Z<|zp (s:=9) Z (fun c=>?_) (fun c=>?_)
  ·exfalso;simp at c;omega
  ·refine z7 Z Z c<|z7 Z Z c<|au Z c Z<|z6 ?_
   exact ⟨_,dy,aJ,aE,rfl⟩
 ·rintro u hu
  subst hu
  refine ye Z Z<|zg<|ah<|aa Z<|zf (Cx _) Z<|ai Z<|zp (s:=18) Z (fun c1=>?_) (fun c1=>?_)
  ·refine z8 Z Z c1<|ac Zr Z3 Z Z<|z8 Z Z c1<|zf (lS _) Z<|z8 Z Z c1<|ai Z<|zp (s:=21) Z (fun c2=>?_) (fun c2=>?_)
   ·refine z7 Z Z c2<|z7 Z Z c2<|z8 Z Z c1<|ar Z c2 Z<|z8 Z Z c1<|ai Z<|z7 Z Z Z<|z7 Z Z Z<|z7 Z Z Z<|z7 Z Z Z<|z7 Z Z Z<|z7 Z Z Z<|z8 Z Z c1<|ar Z Z Z<|ar Z c1 Z<|ab Z<|z6<|zh<|zk (x:=.bool _) Z ?_
    exact jb (by simp_all)
   ·refine z8 Z Z c2<|ac Zr Z3 Z Z<|z8 Z Z c2<|zf (lS _) Z<|z8 Z Z c1<|au Z c2 Z<|z8 Z Z c1<|ai Z<|zp (s:=25) Z (fun c3=>?_) (fun c3=>?_)
    ·refine z7 Z Z c3<|z7 Z Z c3<|z7 Z Z c3<|z7 Z Z c3<|z7 Z Z c3<|z7 Z Z c3<|z8 Z Z c1<|ar Z c3 Z<|ar Z c1 Z<|ab Z<|z6<|zh<|zk (x:=.bool _) Z ?_
     exact jb (by simp_all)
    ·refine z8 Z Z c3<|aa Z<|z8 Z Z c3<|ac Zr Z3 Z Z<|z8 Z Z c3<|ac Zr Z3 Z Z<|z8 Z Z c3<|zf (su op k hk hop ha hb) Z<|z8 Z Z c3<|za (Gv.field1 (v:=.bool _) Yr Z Yh Z Z)<|z8 Z Z c3<|aD Z<|z8 Z Z c1<|au Z c3 Z<|ar Z c1 Z<|ab Z<|z6<|zh<|zk (x:=.bool _) Z ?_
     exact jb (by have h2:¬a.2<a.1:=(by simpa using c2);have h3:¬b.2<b.1:=(by simpa using c3);simp[h2,h3,hcp])
  ·exfalso;simp at c1;omega
end Go.Proofs.YtdilpodccjlkgaaGreatDoor
namespace Go.Proofs.YtdilpodccjlkgaaGreatDoor
open Go.Proofs.Tryz
open Go.Proofs
theorem D0:lh prog 47 1 [.int .i64 0,.int .i64 0]:=⟨_,_,_,jw,zeroValue47,wz,rfl⟩
set_option maxRecDepth 20000
variable {E:World}
def fP (f:ad) (x:aB):Bool:=decide ((bS x.op).1=⟨#[]⟩)||!decide (x.args.length=(bo x.op).length)||!x.args.all (aT f)
def fZ (f:ad) (x:aB):Bool:=(dU x.op&&!aT f x.dst)||(!dU x.op&&!decide (x.dst=-1))
def dg (f:ad) (x:aB):Bool:=!fP f x&&!fZ f x&&(decide (x.num=0)||nA x.op)
def bv (f:ad) (t:ft):Bool:=if t.kind=0 then dV f t.to0&&decide (t.to1=0)&&decide (t.var=0) else if t.kind=1 then aT f t.var&&dV f t.to0&&dV f t.to1 else
 if t.kind=2 then aT f t.var&&decide (t.to0=0∧t.to1=0) else false
theorem sv (a b c d:Int) (w:World):(Op.equalIn 10000 47 (.agg [.int .i64 a,.int .i64 b].toArray) (.agg [.int .i64 c,.int .i64 d].toArray)).run prog w=.ok (decide (a=c∧b=d)) w:=CV a b c d w 9998
theorem wF (f:ad) (x:aB) (hx:nG x.args):aI prog E 144 [.agg (bD f),.agg (be x)] (.bool (dg f x)):=by
 have hl:=hx.lt
 refine zo func144 Z (by decide) Z<|ah<|ya (cs:=_) Z Z Z<|ya (cs:=_) Z Z Z<|ab Z<|z6<|ah<|aq wy Z jv Z Z<|ay jy Z<|zf (nF _) Z<|za (iW Z)<|za (iJ Z Z)<|za (ij Z Z)<|ao Z<|ab Z<|z6<|zd<|zj<|zd<|zt (fun j=>false) (by kernel_rfl) Z (zm (.rest _))<|aj 0 Z (bK wy Z jv Z Z)<|aj 1 Z (da jy Z)<|aY 2 Z<|zf (wt _) Z<|z6<|aj 3 Z (Gv.eqlT Z Z)<|aj 4 Z (m4 Z)<|qe (s:=18) Z (fun c1=>?_) (fun c1=>?_)
 ·refine bR 5 Z Z Z c1<|bR 6 Z Z Z c1<|bR 7 Z Z Z c1<|bR 8 Z Z Z c1<|bR 9 Z Z Z c1<|bR 10 Z Z Z c1<|bR 11 Z Z Z c1<|bR 12 Z Z Z c1<|aj 13 Z (rR Z c1 Z)<|aj 14 Z (m4 Z)<|bR 15 Z Z Z Z<|bR 16 Z Z Z Z<|bR 17 Z Z Z Z<|bR 18 Z Z Z Z<|bR 19 Z Z Z Z<|aj 20 Z (rR Z Z Z)<|aj 21 Z (oO Z)<|bV<|yl Z Z<|ah<|ab Z<|z6<|zh<|zk (x:=.bool _) Z ?_
  exact jb (by simp_all[dg,fP,fZ,Int.ofNat_inj]<;>grind)
 ·refine cC 5 Z Z Z c1 (bK wy Z j5 Z Z)<|cC 6 Z Z Z c1 (eH j9 Z)<|cC 7 Z Z Z c1 (Gv.lenM wx Z)<|cC 8 Z Z Z c1 (bK wy Z jv Z Z)<|cC 9 Z Z Z c1 (da jy Z)<|aY 10 Z<|z8 Z Z c1<|zf (nE _) Z<|z6<|cC 11 Z Z Z c1 (Gv.lenM underlying218 Z)<|cC 12 Z Z Z c1 (Gv.neqI Z Z)<|aj 13 Z (qD Z c1 Z)<|aj 14 Z (m4 Z)<|qe (s:=28) Z (fun c2=>?_) (fun c2=>?_)
  ·refine bR 15 Z Z Z c2<|bR 16 Z Z Z c2<|bR 17 Z Z Z c2<|bR 18 Z Z Z c2<|bR 19 Z Z Z c2<|aj 20 Z (rR Z c2 Z)<|aj 21 Z (oO Z)<|bV<|yl Z Z<|ah<|ab Z<|z6<|zh<|zk (x:=.bool _) Z ?_
   exact jb (by simp_all[dg,fP,fZ,Int.ofNat_inj]<;>grind)
  ·refine cC 15 Z Z Z c2 (yt jj jh Z Z)<|cC 16 Z Z Z c2 (bK wy Z j5 Z Z)<|cC 17 Z Z Z c2 (eH j9 Z)<|aY 18 Z<|z8 Z Z c2<|zf (pB _ _ (by omega)) Z<|z6<|cC 19 Z Z Z c2 (Gv.not Z)<|aj 20 Z (qD Z c2 Z)<|aj 21 Z (oO Z)<|bV<|zu Z (fun c3=>?_) (fun c3=>?_)
   ·refine ah<|ab Z<|z6<|zh<|zk (x:=.bool _) Z ?_
    exact jb (by simp_all[dg,fP,fZ,Int.ofNat_inj]<;>grind)
   ·refine ah<|ai Z<|ai Z<|zp (s:=37) Z (fun c4=>?_) (fun c4=>?_)
    ·refine z8 Z Z c4<|ac jj jh Z Z<|z8 Z Z c4<|aq wy Z wz Z Z<|z8 Z Z c4<|ay j6 Z<|z8 Z Z c4<|zf (jD _ _) Z<|z8 Z Z c4<|aD Z<|ar Z c4 Z<|ai Z<|zp (s:=44) Z (fun c5=>?_) (fun c5=>?_)
     ·refine z7 Z Z c5<|z7 Z Z c5<|z7 Z Z c5<|zi Z Z<|zi Z Z<|zi Z Z<|z7 Z Z c5<|ar Z c5 Z<|ab Z<|z6<|yl Z Z<|ah<|ab Z<|z6<|zh<|zk (x:=.bool _) Z ?_
      exact jb (by simp_all[dg,fP,fZ,Int.ofNat_inj]<;>grind)
     ·refine z8 Z Z c5<|ai Z<|z8 Z Z c5<|aD Z<|z8 Z Z c5<|ai Z<|zp (s:=47) Z (fun c6=>?_) (fun c6=>?_)
      ·refine z8 Z Z c6<|aq wy Z wz Z Z<|z8 Z Z c6<|ay j6 Z<|z8 Z Z c6<|aL Z Z<|z8 Z Z c5<|ar Z c6 Z<|au Z c5 Z<|ab Z<|z6<|zu Z (fun c7=>?_) (fun c7=>?_)
       ·refine ah<|ab Z<|z6<|zh<|zk (x:=.bool _) Z ?_
        exact jb (by simp_all[dg,fP,fZ,Int.ofNat_inj]<;>grind)
       ·refine zg<|ah<|aq wy Z Zo Z Z<|ay Zz Z<|ak Z Z<|ai Z<|zp (s:=56) Z (fun c8=>?_) (fun c8=>?_)
        ·refine z7 Z Z c8<|z7 Z Z c8<|z7 Z Z c8<|ar Z c8 Z<|ab Z<|z6<|zh<|zk (x:=.bool _) Z ?_
         exact jb (by simp_all[dg,fP,fZ,Int.ofNat_inj]<;>grind)
        ·refine z8 Z Z c8<|aq wy Z jv Z Z<|z8 Z Z c8<|ay jy Z<|z8 Z Z c8<|zf (fI _) Z<|au Z c8 Z<|ab Z<|z6<|zh<|zk (x:=.bool _) Z ?_
         exact jb (by simp_all[dg,fP,fZ,Int.ofNat_inj]<;>grind)
      ·refine z7 Z Z c6<|z7 Z Z c6<|z7 Z Z c6<|z8 Z Z c5<|au Z c6 Z<|au Z c5 Z<|ab Z<|z6<|ye Z Z<|zg<|ah<|aq wy Z Zo Z Z<|ay Zz Z<|ak Z Z<|ai Z<|zp (s:=56) Z (fun c9=>?_) (fun c9=>?_)
       ·refine z7 Z Z c9<|z7 Z Z c9<|z7 Z Z c9<|ar Z c9 Z<|ab Z<|z6<|zh<|zk (x:=.bool _) Z ?_
        exact jb (by simp_all[dg,fP,fZ,Int.ofNat_inj]<;>grind)
       ·refine z8 Z Z c9<|aq wy Z jv Z Z<|z8 Z Z c9<|ay jy Z<|z8 Z Z c9<|zf (fI _) Z<|au Z c9 Z<|ab Z<|z6<|zh<|zk (x:=.bool _) Z ?_
        exact jb (by simp_all[dg,fP,fZ,Int.ofNat_inj]<;>grind)
    ·refine z7 Z Z c4<|z7 Z Z c4<|z7 Z Z c4<|z7 Z Z c4<|z7 Z Z c4<|au Z c4 Z<|ai Z<|z8 Z Z Z<|ai Z<|z8 Z Z Z<|aD Z<|z8 Z Z Z<|ai Z<|zp (s:=47) Z (fun c10=>?_) (fun c10=>?_)
     ·refine z8 Z Z c10<|aq wy Z wz Z Z<|z8 Z Z c10<|ay j6 Z<|z8 Z Z c10<|aL Z Z<|z8 Z Z Z<|ar Z c10 Z<|au Z Z Z<|ab Z<|z6<|zu Z (fun c11=>?_) (fun c11=>?_)
      ·refine ah<|ab Z<|z6<|zh<|zk (x:=.bool _) Z ?_
       exact jb (by simp_all[dg,fP,fZ,Int.ofNat_inj]<;>grind)
      ·refine zg<|ah<|aq wy Z Zo Z Z<|ay Zz Z<|ak Z Z<|ai Z<|zp (s:=56) Z (fun c12=>?_) (fun c12=>?_)
       ·refine z7 Z Z c12<|z7 Z Z c12<|z7 Z Z c12<|ar Z c12 Z<|ab Z<|z6<|zh<|zk (x:=.bool _) Z ?_
        exact jb (by simp_all[dg,fP,fZ,Int.ofNat_inj]<;>grind)
       ·refine z8 Z Z c12<|aq wy Z jv Z Z<|z8 Z Z c12<|ay jy Z<|z8 Z Z c12<|zf (fI _) Z<|au Z c12 Z<|ab Z<|z6<|zh<|zk (x:=.bool _) Z ?_
        exact jb (by simp_all[dg,fP,fZ,Int.ofNat_inj]<;>grind)
     ·refine z7 Z Z c10<|z7 Z Z c10<|z7 Z Z c10<|z8 Z Z Z<|au Z c10 Z<|au Z Z Z<|ab Z<|z6<|ye Z Z<|zg<|ah<|aq wy Z Zo Z Z<|ay Zz Z<|ak Z Z<|ai Z<|zp (s:=56) Z (fun c13=>?_) (fun c13=>?_)
      ·refine z7 Z Z c13<|z7 Z Z c13<|z7 Z Z c13<|ar Z c13 Z<|ab Z<|z6<|zh<|zk (x:=.bool _) Z ?_
       exact jb (by simp_all[dg,fP,fZ,Int.ofNat_inj]<;>grind)
      ·refine z8 Z Z c13<|aq wy Z jv Z Z<|z8 Z Z c13<|ay jy Z<|z8 Z Z c13<|zf (fI _) Z<|au Z c13 Z<|ab Z<|z6<|zh<|zk (x:=.bool _) Z ?_
       exact jb (by simp_all[dg,fP,fZ,Int.ofNat_inj]<;>grind)
theorem wG (f:ad) (t:ft):aI prog E 145 [.agg (bD f),.agg (m6 t)] (.bool (bv f t)):=by
 refine zo func145 Z (by decide) Z<|ah<|ya (cs:=_) Z Z Z<|ya (cs:=_) Z Z Z<|ab Z<|z6<|zd<|ah<|aq j8 Z Zv Z Z<|ay Y3 Z<|z6<|zj<|ah<|ak Z Z<|ab Z<|z6<|zu Z (fun c14=>?_) (fun c14=>?_)
 ·refine ah<|ac jj jh Z Z<|aq j8 Z Z7 Z Z<|za (yw (j:=0) jw wz Z Z Z (by decide) Z)<|ay j6 Z<|zf (m7 _ _) Z<|ai Z<|zp (s:=14) Z (fun c15=>?_) (fun c15=>?_)
  ·refine z8 Z Z c15<|aq j8 Z Z7 Z Z<|z8 Z Z c15<|za (yw (j:=1) jw wz Z Z Z (by decide) Z)<|z8 Z Z c15<|ay j6 Z<|z8 Z Z c15<|ak Z Z<|ar Z c15 Z<|ai Z<|zp (s:=20) Z (fun c16=>?_) (fun c16=>?_)
   ·refine z8 Z Z c16<|aq j8 Z wz Z Z<|z8 Z Z c16<|ay j6 Z<|z8 Z Z c16<|ak Z Z<|ar Z c16 Z<|ab Z<|z6<|zh<|zk (x:=.bool _) Z ?_
    exact jb (by simp_all[bv]<;>grind)
   ·refine z7 Z Z c16<|z7 Z Z c16<|z7 Z Z c16<|au Z c16 Z<|ab Z<|z6<|zh<|zk (x:=.bool _) Z ?_
    exact jb (by simp_all[bv]<;>grind)
  ·refine z7 Z Z c15<|z7 Z Z c15<|z7 Z Z c15<|z7 Z Z c15<|au Z c15 Z<|ai Z<|z7 Z Z Z<|z7 Z Z Z<|z7 Z Z Z<|au Z Z Z<|ab Z<|z6<|zh<|zk (x:=.bool _) Z ?_
   exact jb (by simp_all[bv]<;>grind)
 ·refine ah<|ak Z Z<|ab Z<|z6<|zu Z (fun c17=>?_) (fun c17=>?_)
  ·refine ah<|ac jj jh Z Z<|aq j8 Z wz Z Z<|ay j6 Z<|zf (jD _ _) Z<|ai Z<|zp (s:=31) Z (fun c18=>?_) (fun c18=>?_)
   ·refine z8 Z Z c18<|ac jj jh Z Z<|z8 Z Z c18<|aq j8 Z Z7 Z Z<|z8 Z Z c18<|za (yw (j:=0) jw wz Z Z Z (by decide) Z)<|z8 Z Z c18<|ay j6 Z<|z8 Z Z c18<|zf (m7 _ _) Z<|ar Z c18 Z<|ai Z<|zp (s:=38) Z (fun c19=>?_) (fun c19=>?_)
    ·refine z8 Z Z c19<|ac jj jh Z Z<|z8 Z Z c19<|aq j8 Z Z7 Z Z<|z8 Z Z c19<|za (yw (j:=1) jw wz Z Z Z (by decide) Z)<|z8 Z Z c19<|ay j6 Z<|z8 Z Z c19<|zf (m7 _ _) Z<|ar Z c19 Z<|ab Z<|z6<|zh<|zk (x:=.bool _) Z ?_
     exact jb (by simp_all[bv]<;>grind)
    ·refine z7 Z Z c19<|z7 Z Z c19<|z7 Z Z c19<|z7 Z Z c19<|z7 Z Z c19<|au Z c19 Z<|ab Z<|z6<|zh<|zk (x:=.bool _) Z ?_
     exact jb (by simp_all[bv]<;>grind)
   ·refine z7 Z Z c18<|z7 Z Z c18<|z7 Z Z c18<|z7 Z Z c18<|z7 Z Z c18<|au Z c18 Z<|ai Z<|z7 Z Z Z<|z7 Z Z Z<|z7 Z Z Z<|z7 Z Z Z<|z7 Z Z Z<|au Z Z Z<|ab Z<|z6<|zh<|zk (x:=.bool _) Z ?_
    exact jb (by simp_all[bv]<;>grind)
  ·refine ah<|ak Z Z<|ab Z<|z6<|zu Z (fun c20=>?_) (fun c20=>?_)
   ·refine ah<|ac jj jh Z Z<|aq j8 Z wz Z Z<|ay j6 Z<|zf (jD _ _) Z<|ai Z<|zp (s:=51) Z (fun c21=>?_) (fun c21=>?_)
    ·refine z8 Z Z c21<|aq j8 Z Z7 Z Z<|z8 Z Z c21<|ac isAgg47 Z7 Z Z<|z8 Z Z c21<|za (Gv.buildA (cps:=[]) (rs:=[.int .i64 0,.int .i64 0]) D0 Z Z Z)<|z8 Z Z c21<|za (Gv.eqlP (xs:=[.int _ _,.int _ _]) (ys:=[.int _ _,.int _ _]) (by kernel_rfl) Z Z (fun w=>sv _ _ _ _ w))<|ar Z c21 Z<|ab Z<|z6<|zh<|zk (x:=.bool _) Z ?_
     exact jb (by simp_all[bv]<;>grind)
    ·refine z7 Z Z c21<|z7 Z Z c21<|z7 Z Z c21<|z7 Z Z c21<|au Z c21 Z<|ab Z<|z6<|zh<|zk (x:=.bool _) Z ?_
     exact jb (by simp_all[bv]<;>grind)
   ·refine zg<|ah<|ab Z<|z6<|zh<|zk (x:=.bool _) Z ?_
    exact jb (by simp_all[bv]<;>grind)
def pa (s:ByteArray):List AV:=[.str s]
end Go.Proofs.YtdilpodccjlkgaaGreatDoor
