/- The printer's lines of instructions and ends. No conditions but bounds. -/
import Derived.Shelf.Small.Bits
import Derived.Shelf.Strconv.Itoa0
import Derived.Shelf.Sort.Plain
import Derived.Shelf.Unicode.Props
import Derived.Shelf.LaysM
import Derived.Shelf.Unicode.PropsLaid
import Derived.Shelf.Bits.Mul64
import Derived.Shelf.Unicode.Is16White
import Derived.Shelf.Unicode.IsSpaceAny
import Derived.Shelf.Unicode.Is16WhiteD
import Derived.Shelf.Unicode.Is16Any
import Derived.Shelf.Unicode.Is32Any
import Derived.Shelf.Unicode.ExclAny
import Derived.Shelf.Unicode.PredsAny
import Derived.Shelf.Unicode.PredsPay
import Derived.Shelf.Slices.Reverse
import Derived.Ground.Names2Prog
import Derived.Shelf.Slices.Clone
import Derived.Shelf.Slices.SearchI
import Derived.Shelf.Slices.Cells
import Derived.Shelf.Slices.In.SortNone
import Derived.Test.YtdilpodccjlkgaaGreatDoorChecked
import Derived.Test.YtdilpodccjlkgaaGreatDoorHe
import Derived.Test.YtdilpodccjlkgaaGreatDoorHc
import Derived.Test.YtdilpodccjlkgaaGreatDoorHd
import Derived.Lib.ItoaLen
import Derived.Lib.Join
set_option linter.unusedVariables false
set_option linter.unusedSimpArgs false
set_option linter.unusedSectionVars false
namespace Go.Proofs
open Go.Shelf
def Tryz.lays189_ren:Go.Shelf.Ren:=⟨fun|189=>102|125=>138|257=>137|128=>172|129=>173|294=>163|295=>164|296=>165|297=>166|298=>167|299=>168|216=>169|300=>170|301=>171|328=>192|329=>193|330=>194|331=>195|332=>196|215=>197|343=>211|n=>n,fun|28=>23|3=>3|46=>169|0=>0|51=>207|53=>199|4=>4|183=>235|182=>234|131=>189|5=>5|9=>9|218=>268|222=>272|228=>288|229=>110|n=>n,fun|n=>n⟩
theorem Tryz.lays189:Go.Proofs.Lays.n189 prog Tryz.lays189_ren:={
 mixed:=by kernel_rfl
 f125:=func138.trans (congrArg some (by kernel_rfl))
 f128:=func172.trans (congrArg some (by kernel_rfl))
 f129:=func173.trans (congrArg some (by kernel_rfl))
 f189:=func102.trans (congrArg some (by kernel_rfl))
 f215:=func197.trans (congrArg some (by kernel_rfl))
 f216:=func169.trans (congrArg some (by kernel_rfl))
 f257:=func137.trans (congrArg some (by kernel_rfl))
 f294:=func163.trans (congrArg some (by kernel_rfl))
 f295:=func164.trans (congrArg some (by kernel_rfl))
 f296:=func165.trans (congrArg some (by kernel_rfl))
 f297:=func166.trans (congrArg some (by kernel_rfl))
 f298:=func167.trans (congrArg some (by kernel_rfl))
 f299:=func168.trans (congrArg some (by kernel_rfl))
 f300:=func170.trans (congrArg some (by kernel_rfl))
 f301:=func171.trans (congrArg some (by kernel_rfl))
 f328:=func192.trans (congrArg some (by kernel_rfl))
 f329:=func193.trans (congrArg some (by kernel_rfl))
 f330:=func194.trans (congrArg some (by kernel_rfl))
 f331:=func195.trans (congrArg some (by kernel_rfl))
 f332:=func196.trans (congrArg some (by kernel_rfl))
 f343:=func211.trans (congrArg some (by kernel_rfl))
 t0:=underlying0
 a0:=isAgg0
 z0:=sizeOf0
 v0:=zeroValue0
 t3:=underlying3
 a3:=isAgg3
 z3:=sizeOf3
 v3:=zeroValue3
 t4:=underlying4
 a4:=isAgg4
 z4:=sizeOf4
 v4:=zeroValue4
 t5:=underlying5
 a5:=isAgg5
 z5:=sizeOf5
 v5:=zeroValue5
 t9:=underlying9
 a9:=isAgg9
 z9:=sizeOf9
 v9:=zeroValue9
 t28:=underlying23
 a28:=isAgg23
 z28:=sizeOf23
 v28:=zeroValue23
 t46:=underlying169
 a46:=isAgg169
 z46:=sizeOf169
 v46:=zeroValue169
 t51:=underlying207
 a51:=isAgg207
 z51:=sizeOf207
 v51:=zeroValue207
 t53:=underlying199
 a53:=isAgg199
 z53:=sizeOf199
 v53:=zeroValue199
 t131:=underlying189
 a131:=isAgg189
 z131:=sizeOf189
 v131:=zeroValue189
 t182:=underlying234
 a182:=isAgg234
 z182:=sizeOf234
 v182:=zeroValue234
 t183:=underlying235
 a183:=isAgg235
 z183:=sizeOf235
 v183:=zeroValue235
 t218:=underlying268
 a218:=isAgg268
 z218:=sizeOf268
 v218:=zeroValue268
 t222:=underlying272
 a222:=isAgg272
 z222:=sizeOf272
 v222:=zeroValue272
 t228:=underlying288
 a228:=isAgg288
 z228:=sizeOf288
 v228:=zeroValue288
 t229:=underlying110
 a229:=isAgg110
 z229:=sizeOf110
 v229:=zeroValue110 }
open Go.Sort Go.RowKit in
theorem Tryz.slices_Sort_int (blk off cap:Nat) (zs:List Int) (w:World) (hH:Holds (Value.int .i64) w blk off zs.toArray) (hblk:blk<w.heap.size) (hsz:zs.length<4611686018427387904) :
  Calls prog 102 #[.slice (some ⟨blk,off,none⟩) zs.length cap] w fun e w'=>
   e=.returned (.tuple #[])∧∃n os,w'=grow (putRow (Value.int .i64) (Sort.ahead w n) blk off (zs.mergeSort fun x y=>decide (x≤y)).toArray) os:=Any.slices_Sort_int Tryz.lays189 blk off cap zs w hH hblk hsz
def Tryz.lays200_ren:Go.Shelf.Ren:=⟨fun|200=>191|261=>210|311=>218|312=>219|n=>n,fun|21=>21|4=>4|51=>207|5=>5|119=>285|0=>0|141=>287|196=>298|193=>295|3=>3|198=>300|49=>39|194=>296|201=>303|226=>306|46=>169|227=>307|n=>n,fun|7=>0|8=>1|n=>n⟩
theorem Tryz.lays200:Go.Proofs.Lays.n200 prog Tryz.lays200_ren:={
 mixed:=by kernel_rfl
 f200:=func191.trans (congrArg some (by kernel_rfl))
 f261:=func210.trans (congrArg some (by kernel_rfl))
 f311:=func218.trans (congrArg some (by kernel_rfl))
 f312:=func219.trans (congrArg some (by kernel_rfl))
 t0:=underlying0
 a0:=isAgg0
 z0:=sizeOf0
 v0:=zeroValue0
 t3:=underlying3
 a3:=isAgg3
 z3:=sizeOf3
 v3:=zeroValue3
 t4:=underlying4
 a4:=isAgg4
 z4:=sizeOf4
 v4:=zeroValue4
 t5:=underlying5
 a5:=isAgg5
 z5:=sizeOf5
 v5:=zeroValue5
 t21:=underlying21
 a21:=isAgg21
 z21:=sizeOf21
 v21:=zeroValue21
 t46:=underlying169
 a46:=isAgg169
 z46:=sizeOf169
 v46:=zeroValue169
 t49:=underlying39
 a49:=isAgg39
 z49:=sizeOf39
 v49:=zeroValue39
 t51:=underlying207
 a51:=isAgg207
 z51:=sizeOf207
 v51:=zeroValue207
 t119:=underlying285
 a119:=isAgg285
 z119:=sizeOf285
 t141:=underlying287
 a141:=isAgg287
 z141:=sizeOf287
 v141:=zeroValue287
 t193:=underlying295
 a193:=isAgg295
 z193:=sizeOf295
 v193:=zeroValue295
 t194:=underlying296
 a194:=isAgg296
 z194:=sizeOf296
 v194:=zeroValue296
 t196:=underlying298
 a196:=isAgg298
 z196:=sizeOf298
 v196:=zeroValue298
 t198:=underlying300
 a198:=isAgg300
 z198:=sizeOf300
 v198:=zeroValue300
 t201:=underlying303
 a201:=isAgg303
 z201:=sizeOf303
 v201:=zeroValue303
 t226:=underlying306
 a226:=isAgg306
 z226:=sizeOf306
 v226:=zeroValue306
 t227:=underlying307
 a227:=isAgg307
 z227:=sizeOf307
 v227:=zeroValue307
 g7:=by kernel_rfl
 g8:=by kernel_rfl }
def Tryz.lays264_ren:Go.Shelf.Ren:=⟨fun|264=>135|n=>n,fun|53=>199|46=>169|n=>n,fun|n=>n⟩
theorem Tryz.lays264:Go.Proofs.Lays.n264 prog Tryz.lays264_ren:={
 mixed:=by kernel_rfl
 f264:=func135.trans (congrArg some (by kernel_rfl))
 t46:=underlying169
 a46:=isAgg169
 z46:=sizeOf169
 v46:=zeroValue169
 t53:=underlying199
 a53:=isAgg199
 z53:=sizeOf199
 v53:=zeroValue199 }
open Go.RowKit Go.Lib in
theorem Tryz.bits_Mul64 (x y:Nat) (hx:x<18446744073709551616) (hy:y<18446744073709551616) (w:World) :
  Calls prog 135 #[.int .u64 x,.int .u64 y] w fun e w'=>e=.returned (.tuple #[.int .u64 ((x*y / 18446744073709551616:Nat):Int),.int .u64 ((x*y % 18446744073709551616:Nat):Int)])∧w'=w:=Any.bits_Mul64 Tryz.lays264 x y hx hy w
def Tryz.lays212_ren:Go.Shelf.Ren:=⟨fun|212=>100|263=>134|264=>135|n=>n,fun|46=>169|51=>207|146=>208|53=>199|148=>210|n=>n,fun|n=>n⟩
theorem Tryz.lays212:Go.Proofs.Lays.n212 prog Tryz.lays212_ren:={
 mixed:=by kernel_rfl
 f212:=func100.trans (congrArg some (by kernel_rfl))
 f263:=func134.trans (congrArg some (by kernel_rfl))
 f264:=func135.trans (congrArg some (by kernel_rfl))
 t46:=underlying169
 a46:=isAgg169
 z46:=sizeOf169
 v46:=zeroValue169
 t51:=underlying207
 a51:=isAgg207
 z51:=sizeOf207
 v51:=zeroValue207
 t53:=underlying199
 a53:=isAgg199
 z53:=sizeOf199
 v53:=zeroValue199
 t146:=underlying208
 a146:=isAgg208
 z146:=sizeOf208
 v146:=zeroValue208
 t148:=underlying210
 a148:=isAgg210
 z148:=sizeOf210
 v148:=zeroValue210 }
open Go.RowKit Go.Lib in
theorem Tryz.bits_Mul (x y:Nat) (hx:x<18446744073709551616) (hy:y<18446744073709551616) (w:World) :
  Calls prog 100 #[.int .u64 x,.int .u64 y] w fun e w'=>e=.returned (.tuple #[.int .u64 ((x*y / 18446744073709551616:Nat):Int),.int .u64 ((x*y % 18446744073709551616:Nat):Int)])∧w'=w:=Any.bits_Mul Tryz.lays212 x y hx hy w
open Go.RowKit Go.Lib in
theorem Tryz.unicode_IsLetter_all (r:Int) (w:World) (hlo:-2147483648≤r) (hhi:r≤2147483647) (htab:Lib.TabIs prog w "unicode.properties" .u8 Lib.propertiesTab) (hV:RVar 1 letterT w) :
  Calls prog 191 #[.int .i32 r] w fun e w'=>e=.returned (.bool (isLetterU r))∧Below w.heap.size w w':=Any.unicode_IsLetter_all Tryz.lays200 (by kernel_rfl) r w hlo hhi htab hV
def Tryz.lays112_ren:Go.Shelf.Ren:=⟨fun|112=>133|n=>n,fun|28=>23|3=>3|4=>4|0=>0|n=>n,fun|n=>n⟩
theorem Tryz.lays112:Go.Proofs.Lays.n112 prog Tryz.lays112_ren:={
 mixed:=by kernel_rfl
 f112:=func133.trans (congrArg some (by kernel_rfl))
 t0:=underlying0
 a0:=isAgg0
 z0:=sizeOf0
 v0:=zeroValue0
 t3:=underlying3
 a3:=isAgg3
 z3:=sizeOf3
 v3:=zeroValue3
 t4:=underlying4
 a4:=isAgg4
 z4:=sizeOf4
 v4:=zeroValue4
 t28:=underlying23
 a28:=isAgg23
 z28:=sizeOf23
 v28:=zeroValue23 }
open Go.RowKit Go.Lib Go.Sort in
theorem Tryz.slices_Reverse_int (blk off cap:Nat) (zs:List Int) (w:World) (hH:Holds (Value.int .i64) w blk off zs.toArray) (hsz:zs.length≤9223372036854775807) :
  Calls prog 133 #[.slice (some ⟨blk,off,none⟩) zs.length cap] w fun e w'=>e=.returned (.tuple #[])∧∃n,w'=putRow (Value.int .i64) (Sort.ahead w n) blk off zs.reverse.toArray:=Any.slices_Reverse_int Tryz.lays112 blk off cap zs w hH hsz
open Go.RowKit Go.Lib Go.Sort in
theorem Tryz.slices_Reverse_int_empty (a:Option Addr) (cap:Nat) (w:World) :
  Calls prog 133 #[.slice a 0 cap] w fun e w'=>e=.returned (.tuple #[])∧w'=w:=Any.slices_Reverse_int_empty Tryz.lays112 a cap w
open Go.RowKit Go.Sort in
theorem Tryz.slices_Sort_int_none (p:Option Addr) (cap:Nat) (w:World) :
  Calls prog 102 #[.slice p 0 cap] w fun e w'=>e=.returned (.tuple #[])∧w'=w:=Any.slices_Sort_int_none Tryz.lays189 p cap w
end Go.Proofs
namespace Go.Proofs.YtdilpodccjlkgaaGreatDoor
open Go.Proofs.Tryz
open Go.Proofs
variable {E:World}
set_option maxRecDepth 20000
theorem tN (l:List Int) (i:Nat) (T:TypeId) (hl:l.length≤200000):aR prog E 133 [.own i l.length] [(i,.grow 1 T (cI l))] fun r O=>r=.tup []∧O=[(i,.grow 1 T (cI l.reverse))]:=
 aR.turned (g:=List.reverse) (B:=200001) func133 rfl (by decide) (fun l=>List.length_reverse) (fun blk cap zs w hH _ hz=>(Tryz.slices_Reverse_int blk 0 cap zs w hH (by omega)).mono fun e w' ⟨h1,n,h2⟩=>⟨h1,n,#[],by rw[h2,Go.Sort.grow_empty]⟩)
  (fun cap w=>Tryz.slices_Reverse_int_empty none cap w) rfl (by omega)
theorem tO (l:List Int) (i:Nat) (T:TypeId) (hl:l.length≤200000):aR prog E 102 [.own i l.length] [(i,.grow 1 T (cI l))] fun r O=>r=.tup []∧O=[(i,.grow 1 T (cI (jQ l)))]:=
 aR.turned (g:=jQ) (B:=200001) func102 rfl (by decide) (fun l=>(eB l).length_eq) (fun blk cap zs w hH hb hz=>Tryz.slices_Sort_int blk 0 cap zs w hH hb (by omega))
  (fun cap w=>Tryz.slices_Sort_int_none none cap w) rfl (by omega)
theorem aK.ofSame {E:World} {P:Program} {f:FuncId} {fn:Func} {c:Code} {ars:List AV} {vs:List Value} {r:Value} {x:AV} (hf:P.funcs[f]?=some fn) (hb:fn.body=some c) (hn:fn.name≠"runtime.NumGoroutine") (has:ars=vs.map lit)
  (h:∀w,Calls P f vs.toArray w fun e w'=>e=.returned r∧w'=w) (hr:∀I,bq I x r):aK P E f ars x:=fun I F w us h1 h2=>by
 subst has
 rw[kN h1]
 refine Fn.ofCalls hf hb hn ?_
 exact (h w).mono fun e w' ⟨he,hw⟩=>⟨_,he,I,x,[],.refl _,hr I,by rw[hw];exact h2,rfl⟩
theorem yK (x y:Nat) (hx:x<18446744073709551616) (hy:y<18446744073709551616):aK prog E 100 [.int .u64 (x:Int),.int .u64 (y:Int)] (.tup [.int .u64 ((x*y / 18446744073709551616:Nat):Int),.int .u64 ((x*y % 18446744073709551616:Nat):Int)]):=
 aK.ofSame (vs:=[.int .u64 x,.int .u64 y]) func100 rfl (by decide) rfl (fun w=>Tryz.bits_Mul x y hx hy w) (fun I=>⟨_,rfl,_,_,rfl,rfl,_,_,rfl,rfl,rfl⟩)
theorem vD (x y:Nat) (hx:x<18446744073709551616) (hy:y<18446744073709551616):aK prog E 135 [.int .u64 (x:Int),.int .u64 (y:Int)] (.tup [.int .u64 ((x*y / 18446744073709551616:Nat):Int),.int .u64 ((x*y % 18446744073709551616:Nat):Int)]):=
 aK.ofSame (vs:=[.int .u64 x,.int .u64 y]) func135 rfl (by decide) rfl (fun w=>Tryz.bits_Mul64 x y hx hy w) (fun I=>⟨_,rfl,_,_,rfl,rfl,_,_,rfl,rfl,rfl⟩)
def vf (v:Int) (n k:Nat):List Value:=List.replicate k (.int .i64 v)++List.replicate (n - k) (.int .i64 0)
theorem xb {v:Int} {n k:Nat} (h:k≤n):(vf v n k).length=n:=by unfold vf;simp;omega
theorem tP {v:Int} {n k q:Nat} (h:q≤k):(vf v n k).take q=List.replicate q (.int .i64 v):=by unfold vf;rw[List.take_append_of_le_length (by simp;exact h),List.take_replicate,Nat.min_eq_left h]
theorem Bi {v:Int} {n k q:Nat} (h:k+q≤n):(vf v n k).take k++List.replicate q (.int .i64 v)++(vf v n k).drop (k+q)=vf v n (k+q):=by
 rw[tP (Nat.le_refl _)]
 unfold vf
 rw[List.drop_append,List.drop_eq_nil_of_le (by simp),List.length_replicate,List.drop_replicate,List.replicate_append_replicate,List.nil_append]
 congr 2
 omega
theorem C9 {v:Int} {n k:Nat}:∀u∈vf v n k,u.oneCell'=true:=fun u hu=>by
 unfold vf at hu
 rcases List.mem_append.1 hu with h|h
 ·rw[List.eq_of_mem_replicate h];rfl
 ·rw[List.eq_of_mem_replicate h];rfl
theorem Bj (v:Int) (n:Nat):(vf v n n).map lit=cI (List.replicate n v):=by unfold vf cI;simp[lit]
theorem Da {I:G} {k:IntKind} {v:Int} {x:Value} (h:bq I (.fro 1 [[.int k v]]) x):∃b off c,x=.slice (some ⟨b,off,none⟩) 1 c∧Aw I.k b off (.int k v):=by
 obtain ⟨a,n,c,e,hn,_,_,⟨b,off,vs,ea,hl,hr,hk⟩,_⟩:=h
 obtain ⟨u,us,rfl,hu,_⟩:=hr
 have hu:u=.int k v:=hu
 subst ea hu
 simp only[List.length_cons,List.length_nil] at hn
 subst hn
 exact ⟨b,off,c,e,by have:=hk 0 _ rfl;simpa using this⟩
theorem EU {env:aS} {O:OL} {y:Operand} {k:IntKind} {v:Int} (hy:aV env y=.fro 1 [[.int k v]]):∀I F ρ w,ep I env ρ→gt I O F E w→∃a sc,ev ρ y=.slice (some a) 1 sc∧∀j u,([Value.int k v]:List Value)[j]?=some u→w.cell? (a.add j)=some u:=fun I F ρ w h1 h2=>by
 have h:=h1.ev y
 rw[hy] at h
 obtain ⟨b,off,c,e,hk⟩:=Da h
 obtain ⟨_,L,_,hS⟩:=h2
 refine ⟨⟨b,off,none⟩,c,e,fun j u hj=>?_⟩
 cases j with
 |zero=>simp at hj;subst hj;rw[dy];exact hS.at_ (hk.at_ _)
 |succ j=>simp at hj
theorem EV {env:aS} {O O':OL} {y:Operand} {b n c:Nat} {T:TypeId} {vs cs:List Value} (hy:aV env y=CZ b 0 n c) (hO:dB O 0 (yA b T vs) O') (hc:∀(j:Nat) u,cs[j]?=some u→vs[j]?=some u):∀I F ρ w,ep I env ρ→gt I O F E w→∃a sc,ev ρ y=.slice (some a) n sc∧∀j u,cs[j]?=some u→w.cell? (a.add j)=some u:=fun I F ρ w h1 h2=>by
 have h:=fd h1 hy
 obtain ⟨_,L,hL,hS⟩:=h2
 obtain ⟨A,B,hp,hA,hB⟩:=hO.rep hL
 have hA:A=[(b,.cells vs.toArray T (0,0))]:=hA
 subst hA
 have hS2:SL I.k ((b,.cells vs.toArray T (0,0))::(B++F)) E w:=hS.perm ((hp.append_right F).symm)
 refine ⟨⟨b,0,none⟩,c,h,fun j u hj=>?_⟩
 rw[dy,hS2.cell_own,List.getElem?_toArray,Nat.zero_add]
 exact hc j u hj
theorem aN (v:Int) (n:Nat) (hn:n≤100000) (h0:0<n):aR prog E 60 [.fro 1 ([v].map cW),.int .i64 n] [] (fun x O'=>∃i:Nat,x=.own i n∧O'=[(i,.grow 1 3 (cI (List.replicate n v)))]):=by
 have hw:IntKind.wrap .u64 (n:Int)=n:=by unfold IntKind.wrap;simp[IntKind.bits,IntKind.signed];omega
 have hm:(1*n / 18446744073709551616:Nat)=0:=by omega
 have hm2:(1*n % 18446744073709551616:Nat)=n:=by omega
 refine zq func60 U (by decide) U ?_
 have hmul:aK prog E 100 [.int .u64 1,.int .u64 (IntKind.wrap .u64 (n:Int))] (.tup [.int .u64 0,.int .u64 (n:Int)]):=by
  have:=yK (E:=E) 1 n (by omega) (by omega)
  rw[hm,hm2] at this
  rw[hw];exact this
 refine ae<|bF U<|z6<|zd<|ae<|aa U<|ax U U<|z6<|yg U (by simp)<|zg<|ae<|aT U<|ar wz U<|za (Gv.conv Zu Yw U)<|aa U<|za (Gv.conv Zu Yw U)<|ze (hmul) U<|bR U<|bJ U U<|bJ U U<|ap U<|ap U<|z6<|zd<|ae<|aa U<|bb U U<|aj U<|z8 U U (by decide)<|aa U<|z8 U U (by decide)<|bb U U<|za (qU U (by decide) U)<|z6<|yg U (by simp;omega)<|zg<|ae<|aa U<|za (Gv.conv Yw Zu U)<|az.makeRow (m:=n) wz X8 U U U U U (by show IntKind.wrap .i64 (n:Int)=n;unfold IntKind.wrap;simp[IntKind.bits,IntKind.signed];omega) (by show IntKind.wrap .i64 (n:Int)=n;unfold IntKind.wrap;simp[IntKind.bits,IntKind.signed];omega) (by show (8:Int)*_≤_;omega) (by omega)<|fun b=>bF U ?_
 refine z6<|ae<|za (yt (v:=.raw _) U)<|aT U<|az.copyRow (cs:=[.int .i64 v]) (q:=1) wz U U U (Nat.min_eq_left h0).symm .head (by rw[List.length_replicate];omega) (by simp[Value.oneCell']) (EU U) ?_
 have hstart:(List.replicate n (Value.int .i64 0)).take 0++[Value.int .i64 v]++(List.replicate n (Value.int .i64 0)).drop (0+1)=vf v n 1:=by unfold vf;simp[List.drop_replicate]
 rw[hstart]
 refine ap U<|z6<|zd<|zj<|y8 (γ:=Nat) [7] (fun k=>[(8,.int .i64 k)]) (fun k=>[(0,yA b 3 (vf v n k))]) (fun k=>1≤k∧k≤n) (fun k=>n - k) 1 aH aD (⟨Nat.le_refl _,h0⟩) ?_
 rintro k ⟨hk1,hk⟩
 refine zd<|ae<|aa U<|za (yt (v:=.raw _) U)<|za (Gv.lenRow wz U)<|ax U U<|z6<|zu U (fun ck=>?_) (fun ck=>?_)
 ·have hk2:k<n:=by simp at ck;omega
  obtain ⟨q,hq⟩:∃q,q=min k (n - k):=⟨_,rfl⟩
  have hq1:0<q∧q≤k∧k+q≤n:=by omega
  refine zg<|zj<|zw (fun j=>false) (by kernel_rfl) U (zh (.rest _))<|ak 0 U (dq U)<|ak 1 U (yt (v:=.raw _) U)<|ak 2 U (dq U)<|ak 3 U (Gv.rowLo (j:=k) wz j6 U U U (by omega) (by omega) (by omega))<|ak 4 U (yt (v:=.raw _) U)<|ak 5 U (dq U)<|ak 6 U (Gv.rowHi (j:=k) wz j6 U U U (by omega))<|ba 7 U<|az.copyRow (cs:=List.replicate q (.int .i64 v)) (q:=q) wz U U (List.length_replicate ..) hq .head (by rw[xb hk];omega) (fun u hu=>by rw[List.eq_of_mem_replicate hu];rfl) (EV (vs:=vf v n k) U .head (fun j u hj=>by rw[←tP (v:=v) (n:=n) hq1.2.1,List.getElem?_take] at hj;split at hj;exact hj;cases hj)) ?_
  rw[Bi hq1.2.2]
  refine z6<|ak 8 U (CA U U)<|ak 9 U (mA U)<|bY ?_
  exact ⟨k+q,aH,aH,aD,⟨by omega,hq1.2.2⟩,by omega⟩
 ·have hkn:k=n:=by simp at ck;omega
  subst hkn
  refine y7<|ae<|za (yt (v:=.raw _) U)<|bF U<|z6<|dN.rowOwn (t:=4) U .head (xb (Nat.le_refl _)) C9 (fun i=>?_)
  rw[Bj]
  refine zi<|zm (x:=.own _ _) U ?_
  exact ⟨i,rfl,rfl⟩
end Go.Proofs.YtdilpodccjlkgaaGreatDoor
namespace Go.Proofs.YtdilpodccjlkgaaGreatDoor
open Go.Proofs.Tryz
open Go.Proofs
theorem FY:cX prog 265 #[(0,2),(2,1)] [.int .i64 0,.int .i64 0,.bool false]:=⟨_,_,X3,zeroValue265,fun w=>by kernel_rfl,rfl⟩
theorem Ek:lZ prog 281 1 [.int .i64 0,.int .i64 0]:=⟨_,_,_,underlying281,zeroValue281,Za,rfl⟩
variable {E:World}
set_option maxRecDepth 20000
theorem G2 {x y:Int} (hx:cY x) (hy:cY y):aK prog E 209 [.int .i64 x,.int .i64 y] (.tup [.int .i64 (IntKind.i64.wrap (x*y)),.bool (decide (dJ 2 x y))]):=by
 rw[←GY]
 refine zq func209 U (by decide) U<|ae<|ap U<|ab U<|z6<|ae<|aa U<|ze (FX hx) U<|aa U<|ze (FX hy) U<|ze (vD _ _ (AQ hx) (AQ hy)) U<|bR U<|bJ U U<|bJ U U<|ap U<|ap U<|z6<|ae<|ap U<|z6<|zd<|ae<|aa U<|ax U U<|aa U<|ax U U<|za (Gv.neqB Y0 U U)<|z6<|ya (γ:=Int) [0,1,6,7] (fun m=>[(8,.int .u64 m)]) (fun m=>[]) (fun m=>m=if (!(decide (x<0) == decide (y<0)))=true then 9223372036854775808 else 9223372036854775807) ?_ (fun _ _ h=>h) ?_
 ·refine zy U (fun c1=>?_) (fun c1=>?_)
  ·refine aO<|aa U<|za (Gv.addW U U)<|ap U<|z6 ?_
   exact ⟨_,fl,aH,aD,by simp_all<;>first|rfl|decide⟩
  ·refine zg ?_
   exact ⟨_,fl,aH,aD,by simp_all<;>first|rfl|decide⟩
 ·rintro m hm
  subst hm
  refine ae<|aa U<|aa U<|za (Gv.mulW U U)<|aa U<|ai U U<|aj U<|zo (s:=29) U (fun c2=>?_) (fun c2=>?_)
  ·refine z8 U U c2<|aa U<|z8 U U c2<|aa U<|z8 U U c2<|za (qb U U)<|aq U c2 U<|ap U<|ab U<|z6<|zi<|q7 (x:=.int _ _) (y:=.bool _) U U ?_
   simp_all
  ·refine z7 U U c2<|z7 U U c2<|z7 U U c2<|au U c2 U<|ap U<|ab U<|z6<|zi<|q7 (x:=.int _ _) (y:=.bool _) U U ?_
   simp_all
theorem oL (i:Nat) (h:fj × Bool) (n:Int) (fits:Bool) (e:Int):aR prog E 206 [.po i 0,.int .i64 n,.bool fits,.int .i64 e] [(i,.cells 265 (x9 h))] fun r O=>r=.tup []∧O=[(i,.cells 265 (x9 (nx h n fits e)))]:=by
 refine zq func206 U (by decide) U<|zd<|ae<|aj U<|aB U<|z6<|ya (γ:=Int × Bool) [0] (fun g=>[(1,.int .i64 g.1)]) (fun g=>[(i,.cells 265 (x9 (h.1,g.2)))]) (fun g=>g.1=(if fits then n else e)∧g.2=(h.2||!fits)) ?_ (fun _ _ h=>h) ?_
 ·refine zy U (fun c=>?_) (fun c=>?_)
  ·refine aO<|aE U<|aa U<|aw U<|za (zn X3 U Zc (by decide) U U)<|yw (l:=[_]) (new:=[_,_,_]) Zc U U U U U U .head U U<|ap U<|z6 ?_
   exact ⟨(e,true),aH,aH,aD,by simp_all⟩
  ·refine zg ?_
   exact ⟨(n,h.2),aH,aH,aD,by simp_all⟩
 ·rintro ⟨m,w⟩ ⟨h1,h2⟩
  dsimp only at h1 h2
  subst h1 h2
  refine zw (fun j=>Nat.beq j 10) (by kernel_rfl) U (zh (.r (.rest _)))<|ak 0 U (ef U)<|ak 1 U (ef U)<|ak 2 U (yb U)<|ak 3 U (zn X3 U Z9 (by decide) U U)<|ak 4 U (Gv.loadAC (l:=[_,_]) Zy Z9 U ⟨_,.head⟩ U U)<|ak 5 U (dq U)<|ba 6 U<|ze (Hn _) U<|z6<|ba 7 U<|ze (FW _ _) U<|z6<|yx (i:=8) U (by kernel_rfl) (by kernel_rfl) (by kernel_rfl) (by kernel_rfl) (yb U)<|ak 9 U (zn X3 U Z9 (by decide) U U)<|ym<|yi (i:=10) U (by kernel_rfl) (by kernel_rfl)<|yw (l:=[_,_]) (new:=[_,_,_]) Z9 U U U U U U .head U U<|z6<|yo (by kernel_rfl)<|yh ?_
  exact ⟨rfl,rfl⟩
set_option maxHeartbeats 4000000 in
theorem tQ (op:Int) (k:Nat) (hk:k≤2) (hop:op=2+(k:Int)) {a b:fj} (ha:jW a) (hb:jW b):aK prog E 190 [.int .i64 op,.agg (iy a),.agg (iy b)] (.agg (x9 (wR k a b))):=by
 obtain ⟨st,hst⟩:∃st,FR (pT k) (fun x y=>decide (dJ k x y)) (oc k) (CB,false) a b=st:=⟨_,rfl⟩
 have hstep:∀(i j:Nat),j<2→st (2*i+(j+1))=nx (st (2*i+j)) (pT k (f4 a i) (f4 b j)) (decide (dJ k (f4 a i) (f4 b j))) (oc k (f4 a i) (f4 b j)):=fun i j hj=>by rw[←hst];exact AO i hj
 have h4:st 4=wR k a b:=by rw[←hst];rfl
 have h0:st 0=(CB,false):=by rw[←hst];rfl
 refine zq func190 U (by decide) U<|ae<|y9 (cs:=_) U U U<|y9 (cs:=_) U U U<|y6 (cs:=[.int .i64 0,.int .i64 0,.bool false]) zeroValue265 U U<|fun i6=>z6<|ae<|ze (Eh) U<|za (y5 (cps:=[(0,[_,_])]) (rs:=[_,_,.bool false]) FY U U U)<|y6 (cs:=[.int .i64 0,.int .i64 0,.bool false]) zeroValue265 U U<|fun i7=>y1 sizeOf265 U U U U U U .head U<|z6<|zd<|ae<|ao Zv U Za U U<|ay Zj U<|ao Zv U Za U U<|ay Zj U<|za (Gv.buildA (cps:=[(0,[_]),(1,[_])]) (rs:=[_,_]) Ek U U U)<|aa U<|z6<|zj<|y8 (γ:=Nat) [0,5,6,7,24] (fun i=>[(25,.int .i64 i)]) (fun i=>[(i7,.cells 265 (x9 (st (2*i)))),(i6,.cells 265 [.int .i64 0,.int .i64 0,.bool false])]) (fun i=>i≤2) (fun i=>2 - i) 0 aH ⟨_,(.refl _),by rw[h0];rfl⟩ ((by omega)) ?_
 rintro i hi
 refine ae<|ax U U<|z6<|zd<|zu U (fun ci=>?_) (fun ci=>?_)
 ·have hi2:i<2:=by omega
  have hx:=AN ha i
  refine zg<|zd<|zj<|ae<|za (Gv.index1 (n:=2) (j:=i) (cs:=[.int .i64 a.1,.int .i64 a.2]) (v:=.int .i64 (f4 a i)) underlying281 Zj Za U U U hi2 (wS hi2))<|ap U<|z6<|ae<|ao Zv U Za U U<|ay Zj U<|ao Zv U Za U U<|ay Zj U<|za (Gv.buildA (cps:=[(0,[_]),(1,[_])]) (rs:=[_,_]) Ek U U U)<|aa U<|z6<|zj<|y8 (γ:=Nat) [0,5,6,7,9,24,25,32] (fun j=>[(33,.int .i64 j)]) (fun j=>[(i7,.cells 265 (x9 (st (2*i+j)))),(i6,.cells 265 [.int .i64 0,.int .i64 0,.bool false])]) (fun j=>j≤2) (fun j=>2 - j) 0 aH aD ((by omega)) ?_
  rintro j hj
  refine ae<|ax U U<|z6<|zd<|zu U (fun cj=>?_) (fun cj=>?_)
  ·have hj2:j<2:=by omega
   have hy:=AN hb j
   have hs:=hstep i j hj2
   refine zg<|zd<|zj<|ae<|za (Gv.index1 (n:=2) (j:=j) (cs:=[.int .i64 b.1,.int .i64 b.2]) (v:=.int .i64 (f4 b j)) underlying281 Zj Za U U U hj2 (wS hj2))<|ap U<|z6<|ae<|aa U<|z6<|zj<|ae<|ai U U<|ab U<|z6<|zu U (fun c2=>?_) (fun c2=>?_)
   ·have hk0:k=0:=by omega
    subst hk0
    refine ae<|aa U<|aa U<|ze (G0 hx hy) U<|bR U<|bJ U U<|bZ U U<|ap U<|ab U<|z6<|aO<|aa U<|aj U<|aa U<|ax U U<|ze (A5 _) U<|zr U (zh (.l (.r (.rest _)))) (oL i7 _ _ _ _) ?_
    rintro r50 O50 ⟨rfl,rfl⟩
    refine z6<|aO<|aC U U<|aa U<|z6 ?_
    exact ⟨j+1,pS,aH,⟨_,(.refl _),by rw[hs,oe CX (EE _ (f4 b j))];rfl⟩,hj2,by omega⟩
   ·refine ae<|ai U U<|ab U<|z6<|zu U (fun c3=>?_) (fun c3=>?_)
    ·have hk0:k=1:=by omega
     subst hk0
     refine ae<|aa U<|aa U<|ze (G1 hx hy) U<|bR U<|bJ U U<|bZ U U<|ap U<|ab U<|z6<|aO<|aa U<|aj U<|aa U<|ax U U<|ze (A5 _) U<|zr U (zh (.l (.r (.rest _)))) (oL i7 _ _ _ _) ?_
     rintro r64 O64 ⟨rfl,rfl⟩
     refine z6<|aO<|aC U U<|aa U<|z6 ?_
     exact ⟨j+1,pS,aH,⟨_,(.refl _),by rw[hs,oe CY (EF _ (f4 b j))];rfl⟩,hj2,by omega⟩
    ·refine ae<|ai U U<|ab U<|z6<|zu U (fun c4=>?_) (fun c4=>?_)
     ·have hk0:k=2:=by omega
      subst hk0
      refine ae<|aa U<|aa U<|ze (G2 hx hy) U<|bR U<|bJ U U<|bZ U U<|ap U<|ab U<|z6<|aO<|aa U<|aj U<|aa U<|ax U U<|aa U<|ax U U<|za (Gv.neqB Y0 U U)<|ze (A5 _) U<|zr U (zh (.l (.r (.rest _)))) (oL i7 _ _ _ _) ?_
      rintro r81 O81 ⟨rfl,rfl⟩
      refine z6<|aO<|aC U U<|aa U<|z6 ?_
      exact ⟨j+1,pS,aH,⟨_,(.refl _),by rw[hs,oe AP (EG _ (f4 b j))];rfl⟩,hj2,by omega⟩
     ·exfalso;omega
  ·have hj2:j=2:=by omega
   subst hj2
   refine y7<|aO<|aC U U<|aa U<|z6 ?_
   exact ⟨i+1,iO,aH,⟨_,(.refl _),by rw[show 2*(i+1)=2*i+2 by omega]⟩,hi2,by omega⟩
 ·have hi2:i=2:=by omega
  subst hi2
  refine y7<|ae<|za (Gv.loadWC isAgg265 sizeOf265 U ⟨_,.head⟩ U)<|y1 sizeOf265 U U U U U U .t1 U<|z6<|zi<|dI.c1 U ⟨_,.t1⟩ isAgg265 sizeOf265 U ?_
  rw[←h4];try rfl
end Go.Proofs.YtdilpodccjlkgaaGreatDoor
namespace Go.Proofs.YtdilpodccjlkgaaGreatDoor
open Go.Proofs.Tryz
def lv (l:List fj) (v:Int):fj:=(l[v.toNat]?).getD CB
structure FZ (n:Nat) (rule:List fj→Int→fj) (vs:List Int):Prop where
 mono:∀l l' v,l.length=n→l'.length=n→(∀u:Int,0≤u→FQ (lv l u) (lv l' u))→(∀u:Int,0≤u→jW (lv l u))→(∀u:Int,0≤u→jW (lv l' u))→v∈vs→FQ (rule l v) (rule l' v)
 ok:∀l v,l.length=n→(∀u:Int,0≤u→jW (lv l u))→v∈vs→jW (rule l v)
 rng:∀v∈vs,0≤v∧v<n
end Go.Proofs.YtdilpodccjlkgaaGreatDoor
namespace Go.Proofs.YtdilpodccjlkgaaGreatDoor
open Go.Proofs.Tryz
section
variable {n:Nat} {rule:List fj→Int→fj} {widn:Nat→Int→Option fj} {vs:List Int} (hR:FZ n rule vs) (hw:∀i v t,widn i v=some t→jW t)
include hR hw
end
end Go.Proofs.YtdilpodccjlkgaaGreatDoor
namespace Go.Proofs.YtdilpodccjlkgaaGreatDoor
open Go.Proofs.Tryz
end Go.Proofs.YtdilpodccjlkgaaGreatDoor
namespace Go.Proofs.YtdilpodccjlkgaaGreatDoor
open Go.Proofs.Tryz
open Go.Proofs
variable {E:World}
set_option maxRecDepth 20000
theorem F0 (op:Int) (k:Nat) (hk:k≤2) (hop:op=2+(k:Int)) {a b:fj} (ha:jW a) (hb:jW b):aK prog E 158 [.int .i64 op,.agg (iy a),.agg (iy b)] (.bool (decide (a.2<a.1∨b.2<b.1∨fF k a b))):=by
 have hcp:=tv k a b
 refine zq func158 U (by decide) U<|ae<|y9 (cs:=_) U U U<|y9 (cs:=_) U U U<|ab U<|z6<|zd<|zd<|ya (γ:=Bool) [0,4,5] (fun u=>[(12,.bool u)]) (fun u=>[]) (fun u=>u=false) ?_ (fun _ _ h=>h) ?_
 ·refine aO<|aa U<|za (yy U U)<|aj U<|zo (s:=9) U (fun c=>?_) (fun c=>?_)
  ·exfalso;simp at c;omega
  ·refine z7 U U c<|z7 U U c<|au U c U<|z6 ?_
   exact ⟨_,de,aH,aD,rfl⟩
 ·rintro u hu
  subst hu
  refine yg U U<|zg<|ae<|aa U<|ze (Ei _) U<|aj U<|zo (s:=18) U (fun c1=>?_) (fun c1=>?_)
  ·refine z8 U U c1<|ac Zy Z9 U U<|z8 U U c1<|ze (mJ _) U<|z8 U U c1<|aj U<|zo (s:=21) U (fun c2=>?_) (fun c2=>?_)
   ·refine z7 U U c2<|z7 U U c2<|z8 U U c1<|aq U c2 U<|z8 U U c1<|aj U<|z7 U U U<|z7 U U U<|z7 U U U<|z7 U U U<|z7 U U U<|z7 U U U<|z8 U U c1<|aq U U U<|aq U c1 U<|ab U<|z6<|zi<|zm (x:=.bool _) U ?_
    exact jb (by simp_all)
   ·refine z8 U U c2<|ac Zy Z9 U U<|z8 U U c2<|ze (mJ _) U<|z8 U U c1<|au U c2 U<|z8 U U c1<|aj U<|zo (s:=25) U (fun c3=>?_) (fun c3=>?_)
    ·refine z7 U U c3<|z7 U U c3<|z7 U U c3<|z7 U U c3<|z7 U U c3<|z7 U U c3<|z8 U U c1<|aq U c3 U<|aq U c1 U<|ab U<|z6<|zi<|zm (x:=.bool _) U ?_
     exact jb (by simp_all)
    ·refine z8 U U c3<|aa U<|z8 U U c3<|ac Zy Z9 U U<|z8 U U c3<|ac Zy Z9 U U<|z8 U U c3<|ze (tQ op k hk hop ha hb) U<|z8 U U c3<|za (Gv.field1 (v:=.bool _) X3 U Y7 U U)<|z8 U U c3<|aB U<|z8 U U c1<|au U c3 U<|aq U c1 U<|ab U<|z6<|zi<|zm (x:=.bool _) U ?_
     exact jb (by have h2:¬a.2<a.1:=(by simpa using c2);have h3:¬b.2<b.1:=(by simpa using c3);simp[h2,h3,hcp])
  ·exfalso;simp at c1;omega
end Go.Proofs.YtdilpodccjlkgaaGreatDoor
namespace Go.Proofs.YtdilpodccjlkgaaGreatDoor
open Go.Proofs.Tryz
open Go.Proofs
theorem F1:lZ prog 47 1 [.int .i64 0,.int .i64 0]:=⟨_,_,_,Z1,zeroValue47,j6,rfl⟩
set_option maxRecDepth 20000
variable {E:World}
def f5 (f:ad) (x:aF):Bool:=decide ((cJ x.op).1=⟨#[]⟩)||!decide (x.args.length=(bH x.op).length)||!x.args.all (aZ f)
def gl (f:ad) (x:aF):Bool:=(dV x.op&&!aZ f x.dst)||(!dV x.op&&!decide (x.dst=-1))
def dF (f:ad) (x:aF):Bool:=!f5 f x&&!gl f x&&(decide (x.num=0)||ou x.op)
def bM (f:ad) (t:fH):Bool:=if t.kind=0 then eO f t.to0&&decide (t.to1=0)&&decide (t.var=0) else if t.kind=1 then aZ f t.var&&eO f t.to0&&eO f t.to1 else
 if t.kind=2 then aZ f t.var&&decide (t.to0=0∧t.to1=0) else false
theorem tR (a b c d:Int) (w:World):(Op.equalIn 10000 47 (.agg [.int .i64 a,.int .i64 b].toArray) (.agg [.int .i64 c,.int .i64 d].toArray)).run prog w=.ok (decide (a=c∧b=d)) w:=EK a b c d w 9998
theorem yL (f:ad) (x:aF) (hx:oA x.args):aK prog E 144 [.agg (bD f),.agg (aP x)] (.bool (dF f x)):=by
 have hl:=hx.lt
 refine zq func144 U (by decide) U<|ae<|y9 (cs:=_) U U U<|y9 (cs:=_) U U U<|ab U<|z6<|ae<|ao j5 U jy U U<|ay Z2 U<|ze (oz _) U<|bR U<|bJ U U<|bZ U U<|ap U<|ab U<|z6<|zd<|zj<|zd<|zw (fun j=>false) (by kernel_rfl) U (zh (.rest _))<|ak 0 U (bx j5 U jy U U)<|ak 1 U (b7 Z2 U)<|ba 2 U<|ze (yD _) U<|z6<|ak 3 U (Gv.eqlT U U)<|ak 4 U (l6 U)<|qe (s:=18) U (fun c1=>?_) (fun c1=>?_)
 ·refine b9 5 U U U c1<|b9 6 U U U c1<|b9 7 U U U c1<|b9 8 U U U c1<|b9 9 U U U c1<|b9 10 U U U c1<|b9 11 U U U c1<|b9 12 U U U c1<|ak 13 U (ta U c1 U)<|ak 14 U (l6 U)<|b9 15 U U U U<|b9 16 U U U U<|b9 17 U U U U<|b9 18 U U U U<|b9 19 U U U U<|ak 20 U (ta U U U)<|ak 21 U (lT U)<|bY<|yl U U<|ae<|ab U<|z6<|zi<|zm (x:=.bool _) U ?_
  exact jb (by simp_all[dF,f5,gl,Int.ofNat_inj]<;>grind)
 ·refine cR 5 U U U c1 (bx j5 U j8 U U)<|cR 6 U U U c1 (dx j9 U)<|cR 7 U U U c1 (Gv.lenM wz U)<|cR 8 U U U c1 (bx j5 U jy U U)<|cR 9 U U U c1 (b7 Z2 U)<|ba 10 U<|z8 U U c1<|ze (oy _) U<|z6<|cR 11 U U U c1 (Gv.lenM underlying218 U)<|cR 12 U U U c1 (Gv.neqI U U)<|ak 13 U (qU U c1 U)<|ak 14 U (l6 U)<|qe (s:=28) U (fun c2=>?_) (fun c2=>?_)
  ·refine b9 15 U U U c2<|b9 16 U U U c2<|b9 17 U U U c2<|b9 18 U U U c2<|b9 19 U U U c2<|ak 20 U (ta U c2 U)<|ak 21 U (lT U)<|bY<|yl U U<|ae<|ab U<|z6<|zi<|zm (x:=.bool _) U ?_
   exact jb (by simp_all[dF,f5,gl,Int.ofNat_inj]<;>grind)
  ·refine cR 15 U U U c2 (yr ju jf U U)<|cR 16 U U U c2 (bx j5 U j8 U U)<|cR 17 U U U c2 (dx j9 U)<|ba 18 U<|z8 U U c2<|ze (qZ _ _ (by omega)) U<|z6<|cR 19 U U U c2 (Gv.not U)<|ak 20 U (qU U c2 U)<|ak 21 U (lT U)<|bY<|zy U (fun c3=>?_) (fun c3=>?_)
   ·refine ae<|ab U<|z6<|zi<|zm (x:=.bool _) U ?_
    exact jb (by simp_all[dF,f5,gl,Int.ofNat_inj]<;>grind)
   ·refine ae<|aj U<|aj U<|zo (s:=37) U (fun c4=>?_) (fun c4=>?_)
    ·refine z8 U U c4<|ac ju jf U U<|z8 U U c4<|ao j5 U j6 U U<|z8 U U c4<|ay j7 U<|z8 U U c4<|ze (kj _ _) U<|z8 U U c4<|aB U<|aq U c4 U<|aj U<|zo (s:=44) U (fun c5=>?_) (fun c5=>?_)
     ·refine z7 U U c5<|z7 U U c5<|z7 U U c5<|zk U U<|zk U U<|zk U U<|z7 U U c5<|aq U c5 U<|ab U<|z6<|yl U U<|ae<|ab U<|z6<|zi<|zm (x:=.bool _) U ?_
      exact jb (by simp_all[dF,f5,gl,Int.ofNat_inj]<;>grind)
     ·refine z8 U U c5<|aj U<|z8 U U c5<|aB U<|z8 U U c5<|aj U<|zo (s:=47) U (fun c6=>?_) (fun c6=>?_)
      ·refine z8 U U c6<|ao j5 U j6 U U<|z8 U U c6<|ay j7 U<|z8 U U c6<|aM U U<|z8 U U c5<|aq U c6 U<|au U c5 U<|ab U<|z6<|zy U (fun c7=>?_) (fun c7=>?_)
       ·refine ae<|ab U<|z6<|zi<|zm (x:=.bool _) U ?_
        exact jb (by simp_all[dF,f5,gl,Int.ofNat_inj]<;>grind)
       ·refine zg<|ae<|ao j5 U Za U U<|ay Zj U<|ai U U<|aj U<|zo (s:=56) U (fun c8=>?_) (fun c8=>?_)
        ·refine z7 U U c8<|z7 U U c8<|z7 U U c8<|aq U c8 U<|ab U<|z6<|zi<|zm (x:=.bool _) U ?_
         exact jb (by simp_all[dF,f5,gl,Int.ofNat_inj]<;>grind)
        ·refine z8 U U c8<|ao j5 U jy U U<|z8 U U c8<|ay Z2 U<|z8 U U c8<|ze (fU _) U<|au U c8 U<|ab U<|z6<|zi<|zm (x:=.bool _) U ?_
         exact jb (by simp_all[dF,f5,gl,Int.ofNat_inj]<;>grind)
      ·refine z7 U U c6<|z7 U U c6<|z7 U U c6<|z8 U U c5<|au U c6 U<|au U c5 U<|ab U<|z6<|yg U U<|zg<|ae<|ao j5 U Za U U<|ay Zj U<|ai U U<|aj U<|zo (s:=56) U (fun c9=>?_) (fun c9=>?_)
       ·refine z7 U U c9<|z7 U U c9<|z7 U U c9<|aq U c9 U<|ab U<|z6<|zi<|zm (x:=.bool _) U ?_
        exact jb (by simp_all[dF,f5,gl,Int.ofNat_inj]<;>grind)
       ·refine z8 U U c9<|ao j5 U jy U U<|z8 U U c9<|ay Z2 U<|z8 U U c9<|ze (fU _) U<|au U c9 U<|ab U<|z6<|zi<|zm (x:=.bool _) U ?_
        exact jb (by simp_all[dF,f5,gl,Int.ofNat_inj]<;>grind)
    ·refine z7 U U c4<|z7 U U c4<|z7 U U c4<|z7 U U c4<|z7 U U c4<|au U c4 U<|aj U<|z8 U U U<|aj U<|z8 U U U<|aB U<|z8 U U U<|aj U<|zo (s:=47) U (fun c10=>?_) (fun c10=>?_)
     ·refine z8 U U c10<|ao j5 U j6 U U<|z8 U U c10<|ay j7 U<|z8 U U c10<|aM U U<|z8 U U U<|aq U c10 U<|au U U U<|ab U<|z6<|zy U (fun c11=>?_) (fun c11=>?_)
      ·refine ae<|ab U<|z6<|zi<|zm (x:=.bool _) U ?_
       exact jb (by simp_all[dF,f5,gl,Int.ofNat_inj]<;>grind)
      ·refine zg<|ae<|ao j5 U Za U U<|ay Zj U<|ai U U<|aj U<|zo (s:=56) U (fun c12=>?_) (fun c12=>?_)
       ·refine z7 U U c12<|z7 U U c12<|z7 U U c12<|aq U c12 U<|ab U<|z6<|zi<|zm (x:=.bool _) U ?_
        exact jb (by simp_all[dF,f5,gl,Int.ofNat_inj]<;>grind)
       ·refine z8 U U c12<|ao j5 U jy U U<|z8 U U c12<|ay Z2 U<|z8 U U c12<|ze (fU _) U<|au U c12 U<|ab U<|z6<|zi<|zm (x:=.bool _) U ?_
        exact jb (by simp_all[dF,f5,gl,Int.ofNat_inj]<;>grind)
     ·refine z7 U U c10<|z7 U U c10<|z7 U U c10<|z8 U U U<|au U c10 U<|au U U U<|ab U<|z6<|yg U U<|zg<|ae<|ao j5 U Za U U<|ay Zj U<|ai U U<|aj U<|zo (s:=56) U (fun c13=>?_) (fun c13=>?_)
      ·refine z7 U U c13<|z7 U U c13<|z7 U U c13<|aq U c13 U<|ab U<|z6<|zi<|zm (x:=.bool _) U ?_
       exact jb (by simp_all[dF,f5,gl,Int.ofNat_inj]<;>grind)
      ·refine z8 U U c13<|ao j5 U jy U U<|z8 U U c13<|ay Z2 U<|z8 U U c13<|ze (fU _) U<|au U c13 U<|ab U<|z6<|zi<|zm (x:=.bool _) U ?_
       exact jb (by simp_all[dF,f5,gl,Int.ofNat_inj]<;>grind)
theorem yM (f:ad) (t:fH):aK prog E 145 [.agg (bD f),.agg (nO t)] (.bool (bM f t)):=by
 refine zq func145 U (by decide) U<|ae<|y9 (cs:=_) U U U<|y9 (cs:=_) U U U<|ab U<|z6<|zd<|ae<|ao jh U Zz U U<|ay Y8 U<|z6<|zj<|ae<|ai U U<|ab U<|z6<|zy U (fun c14=>?_) (fun c14=>?_)
 ·refine ae<|ac ju jf U U<|ao jh U Ze U U<|za (yv (j:=0) Z1 j6 U U U (by decide) U)<|ay j7 U<|ze (nP _ _) U<|aj U<|zo (s:=14) U (fun c15=>?_) (fun c15=>?_)
  ·refine z8 U U c15<|ao jh U Ze U U<|z8 U U c15<|za (yv (j:=1) Z1 j6 U U U (by decide) U)<|z8 U U c15<|ay j7 U<|z8 U U c15<|ai U U<|aq U c15 U<|aj U<|zo (s:=20) U (fun c16=>?_) (fun c16=>?_)
   ·refine z8 U U c16<|ao jh U j6 U U<|z8 U U c16<|ay j7 U<|z8 U U c16<|ai U U<|aq U c16 U<|ab U<|z6<|zi<|zm (x:=.bool _) U ?_
    exact jb (by simp_all[bM]<;>grind)
   ·refine z7 U U c16<|z7 U U c16<|z7 U U c16<|au U c16 U<|ab U<|z6<|zi<|zm (x:=.bool _) U ?_
    exact jb (by simp_all[bM]<;>grind)
  ·refine z7 U U c15<|z7 U U c15<|z7 U U c15<|z7 U U c15<|au U c15 U<|aj U<|z7 U U U<|z7 U U U<|z7 U U U<|au U U U<|ab U<|z6<|zi<|zm (x:=.bool _) U ?_
   exact jb (by simp_all[bM]<;>grind)
 ·refine ae<|ai U U<|ab U<|z6<|zy U (fun c17=>?_) (fun c17=>?_)
  ·refine ae<|ac ju jf U U<|ao jh U j6 U U<|ay j7 U<|ze (kj _ _) U<|aj U<|zo (s:=31) U (fun c18=>?_) (fun c18=>?_)
   ·refine z8 U U c18<|ac ju jf U U<|z8 U U c18<|ao jh U Ze U U<|z8 U U c18<|za (yv (j:=0) Z1 j6 U U U (by decide) U)<|z8 U U c18<|ay j7 U<|z8 U U c18<|ze (nP _ _) U<|aq U c18 U<|aj U<|zo (s:=38) U (fun c19=>?_) (fun c19=>?_)
    ·refine z8 U U c19<|ac ju jf U U<|z8 U U c19<|ao jh U Ze U U<|z8 U U c19<|za (yv (j:=1) Z1 j6 U U U (by decide) U)<|z8 U U c19<|ay j7 U<|z8 U U c19<|ze (nP _ _) U<|aq U c19 U<|ab U<|z6<|zi<|zm (x:=.bool _) U ?_
     exact jb (by simp_all[bM]<;>grind)
    ·refine z7 U U c19<|z7 U U c19<|z7 U U c19<|z7 U U c19<|z7 U U c19<|au U c19 U<|ab U<|z6<|zi<|zm (x:=.bool _) U ?_
     exact jb (by simp_all[bM]<;>grind)
   ·refine z7 U U c18<|z7 U U c18<|z7 U U c18<|z7 U U c18<|z7 U U c18<|au U c18 U<|aj U<|z7 U U U<|z7 U U U<|z7 U U U<|z7 U U U<|z7 U U U<|au U U U<|ab U<|z6<|zi<|zm (x:=.bool _) U ?_
    exact jb (by simp_all[bM]<;>grind)
  ·refine ae<|ai U U<|ab U<|z6<|zy U (fun c20=>?_) (fun c20=>?_)
   ·refine ae<|ac ju jf U U<|ao jh U j6 U U<|ay j7 U<|ze (kj _ _) U<|aj U<|zo (s:=51) U (fun c21=>?_) (fun c21=>?_)
    ·refine z8 U U c21<|ao jh U Ze U U<|z8 U U c21<|ac isAgg47 Ze U U<|z8 U U c21<|za (Gv.buildA (cps:=[]) (rs:=[.int .i64 0,.int .i64 0]) F1 U U U)<|z8 U U c21<|za (Gv.eqlP (xs:=[.int _ _,.int _ _]) (ys:=[.int _ _,.int _ _]) (by kernel_rfl) U U (fun w=>tR _ _ _ _ w))<|aq U c21 U<|ab U<|z6<|zi<|zm (x:=.bool _) U ?_
     exact jb (by simp_all[bM]<;>grind)
    ·refine z7 U U c21<|z7 U U c21<|z7 U U c21<|z7 U U c21<|au U c21 U<|ab U<|z6<|zi<|zm (x:=.bool _) U ?_
     exact jb (by simp_all[bM]<;>grind)
   ·refine zg<|ae<|ab U<|z6<|zi<|zm (x:=.bool _) U ?_
    exact jb (by simp_all[bM]<;>grind)
def qB (s:ByteArray):List AV:=[.str s]
end Go.Proofs.YtdilpodccjlkgaaGreatDoor
