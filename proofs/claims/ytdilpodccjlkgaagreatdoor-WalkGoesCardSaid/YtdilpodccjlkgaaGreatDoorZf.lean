/- The printer's lines of instructions and ends. No conditions but bounds. -/
import Derived.Shelf.Small.Bits
import Derived.Shelf.Strconv.Itoa0
import Derived.Shelf.Sort.Plain
import Derived.Shelf.Unicode.Props
import Derived.Shelf.LaysM
import Derived.Shelf.Unicode.PropsLaid
import Derived.Shelf.Bits.Mul64
import Derived.Shelf.Unicode.Is16White
import Derived.Shelf.Unicode.IsSpaceAny
import Derived.Shelf.Unicode.Is16WhiteD
import Derived.Shelf.Unicode.Is16Any
import Derived.Shelf.Unicode.Is32Any
import Derived.Shelf.Unicode.ExclAny
import Derived.Shelf.Unicode.PredsAny
import Derived.Shelf.Unicode.PredsPay
import Derived.Shelf.Slices.Reverse
import Derived.Ground.Names2Prog
import Derived.Shelf.Slices.Clone
import Derived.Shelf.Slices.SearchI
import Derived.Shelf.Slices.Cells
import Derived.Shelf.Slices.In.SortNone
import Derived.Test.YtdilpodccjlkgaaGreatDoorChecked
import Derived.Test.YtdilpodccjlkgaaGreatDoorZe
import Derived.Test.YtdilpodccjlkgaaGreatDoorZc
import Derived.Test.YtdilpodccjlkgaaGreatDoorZd
import Derived.Lib.ItoaLen
import Derived.Lib.Join
set_option linter.unusedVariables false
set_option linter.unusedSimpArgs false
set_option linter.unusedSectionVars false
namespace Go.Proofs
open Go.Shelf
def Tryz.lays189_ren:Go.Shelf.Ren:=⟨fun|189=>102|125=>138|257=>137|128=>172|129=>173|294=>163|295=>164|296=>165|297=>166|298=>167|299=>168|216=>169|300=>170|301=>171|328=>192|329=>193|330=>194|331=>195|332=>196|215=>197|343=>211|n=>n,fun|28=>23|3=>3|46=>169|0=>0|51=>207|53=>199|4=>4|183=>235|182=>234|131=>189|5=>5|9=>9|218=>268|222=>272|228=>288|229=>110|n=>n,fun|n=>n⟩
theorem Tryz.lays189:Go.Proofs.Lays.n189 prog Tryz.lays189_ren:={
 mixed:=by kernel_rfl
 f125:=func138.trans (congrArg some (by kernel_rfl))
 f128:=func172.trans (congrArg some (by kernel_rfl))
 f129:=func173.trans (congrArg some (by kernel_rfl))
 f189:=func102.trans (congrArg some (by kernel_rfl))
 f215:=func197.trans (congrArg some (by kernel_rfl))
 f216:=func169.trans (congrArg some (by kernel_rfl))
 f257:=func137.trans (congrArg some (by kernel_rfl))
 f294:=func163.trans (congrArg some (by kernel_rfl))
 f295:=func164.trans (congrArg some (by kernel_rfl))
 f296:=func165.trans (congrArg some (by kernel_rfl))
 f297:=func166.trans (congrArg some (by kernel_rfl))
 f298:=func167.trans (congrArg some (by kernel_rfl))
 f299:=func168.trans (congrArg some (by kernel_rfl))
 f300:=func170.trans (congrArg some (by kernel_rfl))
 f301:=func171.trans (congrArg some (by kernel_rfl))
 f328:=func192.trans (congrArg some (by kernel_rfl))
 f329:=func193.trans (congrArg some (by kernel_rfl))
 f330:=func194.trans (congrArg some (by kernel_rfl))
 f331:=func195.trans (congrArg some (by kernel_rfl))
 f332:=func196.trans (congrArg some (by kernel_rfl))
 f343:=func211.trans (congrArg some (by kernel_rfl))
 t0:=underlying0
 a0:=isAgg0
 z0:=sizeOf0
 v0:=zeroValue0
 t3:=underlying3
 a3:=isAgg3
 z3:=sizeOf3
 v3:=zeroValue3
 t4:=underlying4
 a4:=isAgg4
 z4:=sizeOf4
 v4:=zeroValue4
 t5:=underlying5
 a5:=isAgg5
 z5:=sizeOf5
 v5:=zeroValue5
 t9:=underlying9
 a9:=isAgg9
 z9:=sizeOf9
 v9:=zeroValue9
 t28:=underlying23
 a28:=isAgg23
 z28:=sizeOf23
 v28:=zeroValue23
 t46:=underlying169
 a46:=isAgg169
 z46:=sizeOf169
 v46:=zeroValue169
 t51:=underlying207
 a51:=isAgg207
 z51:=sizeOf207
 v51:=zeroValue207
 t53:=underlying199
 a53:=isAgg199
 z53:=sizeOf199
 v53:=zeroValue199
 t131:=underlying189
 a131:=isAgg189
 z131:=sizeOf189
 v131:=zeroValue189
 t182:=underlying234
 a182:=isAgg234
 z182:=sizeOf234
 v182:=zeroValue234
 t183:=underlying235
 a183:=isAgg235
 z183:=sizeOf235
 v183:=zeroValue235
 t218:=underlying268
 a218:=isAgg268
 z218:=sizeOf268
 v218:=zeroValue268
 t222:=underlying272
 a222:=isAgg272
 z222:=sizeOf272
 v222:=zeroValue272
 t228:=underlying288
 a228:=isAgg288
 z228:=sizeOf288
 v228:=zeroValue288
 t229:=underlying110
 a229:=isAgg110
 z229:=sizeOf110
 v229:=zeroValue110 }
open Go.Sort Go.RowKit in
theorem Tryz.slices_Sort_int (blk off cap:Nat) (zs:List Int) (w:World) (hH:Holds (Value.int .i64) w blk off zs.toArray) (hblk:blk<w.heap.size) (hsz:zs.length<4611686018427387904) :
  Calls prog 102 #[.slice (some ⟨blk,off,none⟩) zs.length cap] w fun e w'=>
   e=.returned (.tuple #[])∧∃n os,w'=grow (putRow (Value.int .i64) (Sort.ahead w n) blk off (zs.mergeSort fun x y=>decide (x≤y)).toArray) os:=Any.slices_Sort_int Tryz.lays189 blk off cap zs w hH hblk hsz
def Tryz.lays200_ren:Go.Shelf.Ren:=⟨fun|200=>191|261=>210|311=>218|312=>219|n=>n,fun|21=>21|4=>4|51=>207|5=>5|119=>285|0=>0|141=>287|196=>298|193=>295|3=>3|198=>300|49=>39|194=>296|201=>303|226=>306|46=>169|227=>307|n=>n,fun|7=>0|8=>1|n=>n⟩
theorem Tryz.lays200:Go.Proofs.Lays.n200 prog Tryz.lays200_ren:={
 mixed:=by kernel_rfl
 f200:=func191.trans (congrArg some (by kernel_rfl))
 f261:=func210.trans (congrArg some (by kernel_rfl))
 f311:=func218.trans (congrArg some (by kernel_rfl))
 f312:=func219.trans (congrArg some (by kernel_rfl))
 t0:=underlying0
 a0:=isAgg0
 z0:=sizeOf0
 v0:=zeroValue0
 t3:=underlying3
 a3:=isAgg3
 z3:=sizeOf3
 v3:=zeroValue3
 t4:=underlying4
 a4:=isAgg4
 z4:=sizeOf4
 v4:=zeroValue4
 t5:=underlying5
 a5:=isAgg5
 z5:=sizeOf5
 v5:=zeroValue5
 t21:=underlying21
 a21:=isAgg21
 z21:=sizeOf21
 v21:=zeroValue21
 t46:=underlying169
 a46:=isAgg169
 z46:=sizeOf169
 v46:=zeroValue169
 t49:=underlying39
 a49:=isAgg39
 z49:=sizeOf39
 v49:=zeroValue39
 t51:=underlying207
 a51:=isAgg207
 z51:=sizeOf207
 v51:=zeroValue207
 t119:=underlying285
 a119:=isAgg285
 z119:=sizeOf285
 t141:=underlying287
 a141:=isAgg287
 z141:=sizeOf287
 v141:=zeroValue287
 t193:=underlying295
 a193:=isAgg295
 z193:=sizeOf295
 v193:=zeroValue295
 t194:=underlying296
 a194:=isAgg296
 z194:=sizeOf296
 v194:=zeroValue296
 t196:=underlying298
 a196:=isAgg298
 z196:=sizeOf298
 v196:=zeroValue298
 t198:=underlying300
 a198:=isAgg300
 z198:=sizeOf300
 v198:=zeroValue300
 t201:=underlying303
 a201:=isAgg303
 z201:=sizeOf303
 v201:=zeroValue303
 t226:=underlying306
 a226:=isAgg306
 z226:=sizeOf306
 v226:=zeroValue306
 t227:=underlying307
 a227:=isAgg307
 z227:=sizeOf307
 v227:=zeroValue307
 g7:=by kernel_rfl
 g8:=by kernel_rfl }
def Tryz.lays264_ren:Go.Shelf.Ren:=⟨fun|264=>135|n=>n,fun|53=>199|46=>169|n=>n,fun|n=>n⟩
theorem Tryz.lays264:Go.Proofs.Lays.n264 prog Tryz.lays264_ren:={
 mixed:=by kernel_rfl
 f264:=func135.trans (congrArg some (by kernel_rfl))
 t46:=underlying169
 a46:=isAgg169
 z46:=sizeOf169
 v46:=zeroValue169
 t53:=underlying199
 a53:=isAgg199
 z53:=sizeOf199
 v53:=zeroValue199 }
open Go.RowKit Go.Lib in
theorem Tryz.bits_Mul64 (x y:Nat) (hx:x<18446744073709551616) (hy:y<18446744073709551616) (w:World) :
  Calls prog 135 #[.int .u64 x,.int .u64 y] w fun e w'=>e=.returned (.tuple #[.int .u64 ((x*y / 18446744073709551616:Nat):Int),.int .u64 ((x*y % 18446744073709551616:Nat):Int)])∧w'=w:=Any.bits_Mul64 Tryz.lays264 x y hx hy w
def Tryz.lays212_ren:Go.Shelf.Ren:=⟨fun|212=>100|263=>134|264=>135|n=>n,fun|46=>169|51=>207|146=>208|53=>199|148=>210|n=>n,fun|n=>n⟩
theorem Tryz.lays212:Go.Proofs.Lays.n212 prog Tryz.lays212_ren:={
 mixed:=by kernel_rfl
 f212:=func100.trans (congrArg some (by kernel_rfl))
 f263:=func134.trans (congrArg some (by kernel_rfl))
 f264:=func135.trans (congrArg some (by kernel_rfl))
 t46:=underlying169
 a46:=isAgg169
 z46:=sizeOf169
 v46:=zeroValue169
 t51:=underlying207
 a51:=isAgg207
 z51:=sizeOf207
 v51:=zeroValue207
 t53:=underlying199
 a53:=isAgg199
 z53:=sizeOf199
 v53:=zeroValue199
 t146:=underlying208
 a146:=isAgg208
 z146:=sizeOf208
 v146:=zeroValue208
 t148:=underlying210
 a148:=isAgg210
 z148:=sizeOf210
 v148:=zeroValue210 }
open Go.RowKit Go.Lib in
theorem Tryz.bits_Mul (x y:Nat) (hx:x<18446744073709551616) (hy:y<18446744073709551616) (w:World) :
  Calls prog 100 #[.int .u64 x,.int .u64 y] w fun e w'=>e=.returned (.tuple #[.int .u64 ((x*y / 18446744073709551616:Nat):Int),.int .u64 ((x*y % 18446744073709551616:Nat):Int)])∧w'=w:=Any.bits_Mul Tryz.lays212 x y hx hy w
open Go.RowKit Go.Lib in
theorem Tryz.unicode_IsLetter_all (r:Int) (w:World) (hlo:-2147483648≤r) (hhi:r≤2147483647) (htab:Lib.TabIs prog w "unicode.properties" .u8 Lib.propertiesTab) (hV:RVar 1 letterT w) :
  Calls prog 191 #[.int .i32 r] w fun e w'=>e=.returned (.bool (isLetterU r))∧Below w.heap.size w w':=Any.unicode_IsLetter_all Tryz.lays200 (by kernel_rfl) r w hlo hhi htab hV
def Tryz.lays112_ren:Go.Shelf.Ren:=⟨fun|112=>133|n=>n,fun|28=>23|3=>3|4=>4|0=>0|n=>n,fun|n=>n⟩
theorem Tryz.lays112:Go.Proofs.Lays.n112 prog Tryz.lays112_ren:={
 mixed:=by kernel_rfl
 f112:=func133.trans (congrArg some (by kernel_rfl))
 t0:=underlying0
 a0:=isAgg0
 z0:=sizeOf0
 v0:=zeroValue0
 t3:=underlying3
 a3:=isAgg3
 z3:=sizeOf3
 v3:=zeroValue3
 t4:=underlying4
 a4:=isAgg4
 z4:=sizeOf4
 v4:=zeroValue4
 t28:=underlying23
 a28:=isAgg23
 z28:=sizeOf23
 v28:=zeroValue23 }
open Go.RowKit Go.Lib Go.Sort in
theorem Tryz.slices_Reverse_int (blk off cap:Nat) (zs:List Int) (w:World) (hH:Holds (Value.int .i64) w blk off zs.toArray) (hsz:zs.length≤9223372036854775807) :
  Calls prog 133 #[.slice (some ⟨blk,off,none⟩) zs.length cap] w fun e w'=>e=.returned (.tuple #[])∧∃n,w'=putRow (Value.int .i64) (Sort.ahead w n) blk off zs.reverse.toArray:=Any.slices_Reverse_int Tryz.lays112 blk off cap zs w hH hsz
open Go.RowKit Go.Lib Go.Sort in
theorem Tryz.slices_Reverse_int_empty (a:Option Addr) (cap:Nat) (w:World) :
  Calls prog 133 #[.slice a 0 cap] w fun e w'=>e=.returned (.tuple #[])∧w'=w:=Any.slices_Reverse_int_empty Tryz.lays112 a cap w
open Go.RowKit Go.Sort in
theorem Tryz.slices_Sort_int_none (p:Option Addr) (cap:Nat) (w:World) :
  Calls prog 102 #[.slice p 0 cap] w fun e w'=>e=.returned (.tuple #[])∧w'=w:=Any.slices_Sort_int_none Tryz.lays189 p cap w
end Go.Proofs
namespace Go.Proofs.YtdilpodccjlkgaaGreatDoor
open Go.Proofs.Tryz
open Go.Proofs
variable {E:World}
set_option maxRecDepth 20000
theorem uN (l:List Int) (i:Nat) (T:TypeId) (hl:l.length≤200000):aY prog E 133 [.own i l.length] [(i,.grow 1 T (cI l))] fun r O=>r=.tup []∧O=[(i,.grow 1 T (cI l.reverse))]:=
 aY.turned (g:=List.reverse) (B:=200001) func133 rfl (by decide) (fun l=>List.length_reverse) (fun blk cap zs w hH _ hz=>(Tryz.slices_Reverse_int blk 0 cap zs w hH (by omega)).mono fun e w' ⟨h1,n,h2⟩=>⟨h1,n,#[],by rw[h2,Go.Sort.grow_empty]⟩)
  (fun cap w=>Tryz.slices_Reverse_int_empty none cap w) rfl (by omega)
theorem uO (l:List Int) (i:Nat) (T:TypeId) (hl:l.length≤200000):aY prog E 102 [.own i l.length] [(i,.grow 1 T (cI l))] fun r O=>r=.tup []∧O=[(i,.grow 1 T (cI (km l)))]:=
 aY.turned (g:=km) (B:=200001) func102 rfl (by decide) (fun l=>(eN l).length_eq) (fun blk cap zs w hH hb hz=>Tryz.slices_Sort_int blk 0 cap zs w hH hb (by omega))
  (fun cap w=>Tryz.slices_Sort_int_none none cap w) rfl (by omega)
theorem aM.ofSame {E:World} {P:Program} {f:FuncId} {fn:Func} {c:Code} {ars:List AV} {vs:List Value} {r:Value} {x:AV} (hf:P.funcs[f]?=some fn) (hb:fn.body=some c) (hn:fn.name≠"runtime.NumGoroutine") (has:ars=vs.map lit)
  (h:∀w,Calls P f vs.toArray w fun e w'=>e=.returned r∧w'=w) (hr:∀I,bp I x r):aM P E f ars x:=fun I F w us h1 h2=>by
 subst has
 rw[ld h1]
 refine Fn.ofCalls hf hb hn ?_
 exact (h w).mono fun e w' ⟨he,hw⟩=>⟨_,he,I,x,[],.refl _,hr I,by rw[hw];exact h2,rfl⟩
theorem AR (x y:Nat) (hx:x<18446744073709551616) (hy:y<18446744073709551616):aM prog E 100 [.int .u64 (x:Int),.int .u64 (y:Int)] (.tup [.int .u64 ((x*y / 18446744073709551616:Nat):Int),.int .u64 ((x*y % 18446744073709551616:Nat):Int)]):=
 aM.ofSame (vs:=[.int .u64 x,.int .u64 y]) func100 rfl (by decide) rfl (fun w=>Tryz.bits_Mul x y hx hy w) (fun I=>⟨_,rfl,_,_,rfl,rfl,_,_,rfl,rfl,rfl⟩)
theorem xb (x y:Nat) (hx:x<18446744073709551616) (hy:y<18446744073709551616):aM prog E 135 [.int .u64 (x:Int),.int .u64 (y:Int)] (.tup [.int .u64 ((x*y / 18446744073709551616:Nat):Int),.int .u64 ((x*y % 18446744073709551616:Nat):Int)]):=
 aM.ofSame (vs:=[.int .u64 x,.int .u64 y]) func135 rfl (by decide) rfl (fun w=>Tryz.bits_Mul64 x y hx hy w) (fun I=>⟨_,rfl,_,_,rfl,rfl,_,_,rfl,rfl,rfl⟩)
def wu (v:Int) (n k:Nat):List Value:=List.replicate k (.int .i64 v)++List.replicate (n - k) (.int .i64 0)
theorem yY {v:Int} {n k:Nat} (h:k≤n):(wu v n k).length=n:=by unfold wu;simp;omega
theorem uP {v:Int} {n k q:Nat} (h:q≤k):(wu v n k).take q=List.replicate q (.int .i64 v):=by unfold wu;rw[List.take_append_of_le_length (by simp;exact h),List.take_replicate,Nat.min_eq_left h]
theorem CN {v:Int} {n k q:Nat} (h:k+q≤n):(wu v n k).take k++List.replicate q (.int .i64 v)++(wu v n k).drop (k+q)=wu v n (k+q):=by
 rw[uP (Nat.le_refl _)]
 unfold wu
 rw[List.drop_append,List.drop_eq_nil_of_le (by simp),List.length_replicate,List.drop_replicate,List.replicate_append_replicate,List.nil_append]
 congr 2
 omega
theorem EC {v:Int} {n k:Nat}:∀u∈wu v n k,u.oneCell'=true:=fun u hu=>by
 unfold wu at hu
 rcases List.mem_append.1 hu with h|h
 ·rw[List.eq_of_mem_replicate h];rfl
 ·rw[List.eq_of_mem_replicate h];rfl
theorem CO (v:Int) (n:Nat):(wu v n n).map lit=cI (List.replicate n v):=by unfold wu cI;simp[lit]
theorem ED {I:G} {k:IntKind} {v:Int} {x:Value} (h:bp I (.fro 1 [[.int k v]]) x):∃b off c,x=.slice (some ⟨b,off,none⟩) 1 c∧B5 I.k b off (.int k v):=by
 obtain ⟨a,n,c,e,hn,_,_,⟨b,off,vs,ea,hl,hr,hk⟩,_⟩:=h
 obtain ⟨u,us,rfl,hu,_⟩:=hr
 have hu:u=.int k v:=hu
 subst ea hu
 simp only[List.length_cons,List.length_nil] at hn
 subst hn
 exact ⟨b,off,c,e,by have:=hk 0 _ rfl;simpa using this⟩
theorem Gx {env:aR} {O:OL} {y:Operand} {k:IntKind} {v:Int} (hy:aV env y=.fro 1 [[.int k v]]):∀I F ρ w,eC I env ρ→gG I O F E w→∃a sc,ev ρ y=.slice (some a) 1 sc∧∀j u,([Value.int k v]:List Value)[j]?=some u→w.cell? (a.add j)=some u:=fun I F ρ w h1 h2=>by
 have h:=h1.ev y
 rw[hy] at h
 obtain ⟨b,off,c,e,hk⟩:=ED h
 obtain ⟨_,L,_,hS⟩:=h2
 refine ⟨⟨b,off,none⟩,c,e,fun j u hj=>?_⟩
 cases j with
 |zero=>simp at hj;subst hj;rw[dz];exact hS.at_ (hk.at_ _)
 |succ j=>simp at hj
theorem Gy {env:aR} {O O':OL} {y:Operand} {b n c:Nat} {T:TypeId} {vs cs:List Value} (hy:aV env y=Er b 0 n c) (hO:dA O 0 (AF b T vs) O') (hc:∀(j:Nat) u,cs[j]?=some u→vs[j]?=some u):∀I F ρ w,eC I env ρ→gG I O F E w→∃a sc,ev ρ y=.slice (some a) n sc∧∀j u,cs[j]?=some u→w.cell? (a.add j)=some u:=fun I F ρ w h1 h2=>by
 have h:=fB h1 hy
 obtain ⟨_,L,hL,hS⟩:=h2
 obtain ⟨A,B,hp,hA,hB⟩:=hO.rep hL
 have hA:A=[(b,.cells vs.toArray T (0,0))]:=hA
 subst hA
 have hS2:SL I.k ((b,.cells vs.toArray T (0,0))::(B++F)) E w:=hS.perm ((hp.append_right F).symm)
 refine ⟨⟨b,0,none⟩,c,h,fun j u hj=>?_⟩
 rw[dz,hS2.cell_own,List.getElem?_toArray,Nat.zero_add]
 exact hc j u hj
theorem aP (v:Int) (n:Nat) (hn:n≤100000) (h0:0<n):aY prog E 60 [.fro 1 ([v].map cX),.int .i64 n] [] (fun x O'=>∃i:Nat,x=.own i n∧O'=[(i,.grow 1 3 (cI (List.replicate n v)))]):=by
 have hw:IntKind.wrap .u64 (n:Int)=n:=by unfold IntKind.wrap;simp[IntKind.bits,IntKind.signed];omega
 have hm:(1*n / 18446744073709551616:Nat)=0:=by omega
 have hm2:(1*n % 18446744073709551616:Nat)=n:=by omega
 refine zp func60 Z (by decide) Z ?_
 have hmul:aM prog E 100 [.int .u64 1,.int .u64 (IntKind.wrap .u64 (n:Int))] (.tup [.int .u64 0,.int .u64 (n:Int)]):=by
  have:=AR (E:=E) 1 n (by omega) (by omega)
  rw[hm,hm2] at this
  rw[hw];exact this
 refine ai<|za (jI Z)<|z6<|zd<|ai<|aa Z<|ay Z Z<|z6<|yg Z (by simp)<|zi<|ai<|be Z<|aq wy Z<|za (qm Zy X6 Z)<|aa Z<|za (qm Zy X6 Z)<|zh (hmul) Z<|za (ke Z)<|za (iN Z Z)<|za (iN Z Z)<|ao Z<|ao Z<|z6<|zd<|ai<|aa Z<|aZ Z Z<|aj Z<|z8 Z Z (by decide)<|aa Z<|z8 Z Z (by decide)<|aZ Z Z<|za (rz Z (by decide) Z)<|z6<|yg Z (by simp;omega)<|zi<|ai<|aa Z<|za (qm X6 Zy Z)<|az.makeRow (m:=n) wy Y1 Z Z Z Z Z (by show IntKind.wrap .i64 (n:Int)=n;unfold IntKind.wrap;simp[IntKind.bits,IntKind.signed];omega) (by show IntKind.wrap .i64 (n:Int)=n;unfold IntKind.wrap;simp[IntKind.bits,IntKind.signed];omega) (by show (8:Int)*_≤_;omega) (by omega)<|fun b=>za (jI Z) ?_
 refine z6<|ai<|za (yv (v:=.raw _) Z)<|be Z<|az.copyRow (cs:=[.int .i64 v]) (q:=1) wy Z Z Z (Nat.min_eq_left h0).symm .head (by rw[List.length_replicate];omega) (by simp[Value.oneCell']) (Gx Z) ?_
 have hstart:(List.replicate n (Value.int .i64 0)).take 0++[Value.int .i64 v]++(List.replicate n (Value.int .i64 0)).drop (0+1)=wu v n 1:=by unfold wu;simp[List.drop_replicate]
 rw[hstart]
 refine ao Z<|z6<|zd<|zm<|y8 (γ:=Nat) [7] (fun k=>[(8,.int .i64 k)]) (fun k=>[(0,AF b 3 (wu v n k))]) (fun k=>1≤k∧k≤n) (fun k=>n - k) 1 aK aH (⟨Nat.le_refl _,h0⟩) ?_
 rintro k ⟨hk1,hk⟩
 refine zd<|ai<|aa Z<|za (yv (v:=.raw _) Z)<|za (Gv.lenRow wy Z)<|ay Z Z<|z6<|zt Z (fun ck=>?_) (fun ck=>?_)
 ·have hk2:k<n:=by simp at ck;omega
  obtain ⟨q,hq⟩:∃q,q=min k (n - k):=⟨_,rfl⟩
  have hq1:0<q∧q≤k∧k+q≤n:=by omega
  refine zi<|zm<|zr (fun j=>false) (by kernel_rfl) Z (zj (.rest _))<|ad 0 Z (cD Z)<|ad 1 Z (yv (v:=.raw _) Z)<|ad 2 Z (cD Z)<|ad 3 Z (Gv.rowLo (j:=k) wy wz Z Z Z (by omega) (by omega) (by omega))<|ad 4 Z (yv (v:=.raw _) Z)<|ad 5 Z (cD Z)<|ad 6 Z (Gv.rowHi (j:=k) wy wz Z Z Z (by omega))<|aQ 7 Z<|az.copyRow (cs:=List.replicate q (.int .i64 v)) (q:=q) wy Z Z (List.length_replicate ..) hq .head (by rw[yY hk];omega) (fun u hu=>by rw[List.eq_of_mem_replicate hu];rfl) (Gy (vs:=wu v n k) Z .head (fun j u hj=>by rw[←uP (v:=v) (n:=n) hq1.2.1,List.getElem?_take] at hj;split at hj;exact hj;cases hj)) ?_
  rw[CN hq1.2.2]
  refine z6<|ad 8 Z (wG Z Z)<|ad 9 Z (mY Z)<|bI ?_
  exact ⟨k+q,aK,aK,aH,⟨by omega,hq1.2.2⟩,by omega⟩
 ·have hkn:k=n:=by simp at ck;omega
  subst hkn
  refine y6<|ai<|za (yv (v:=.raw _) Z)<|za (jI Z)<|z6<|dJ.rowOwn (t:=4) Z .head (yY (Nat.le_refl _)) EC (fun i=>?_)
  rw[CO]
  refine zg<|zn (x:=.own _ _) Z ?_
  exact ⟨i,rfl,rfl⟩
end Go.Proofs.YtdilpodccjlkgaaGreatDoor
namespace Go.Proofs.YtdilpodccjlkgaaGreatDoor
open Go.Proofs.Tryz
open Go.Proofs
theorem Hz:dB prog 265 #[(0,2),(2,1)] [.int .i64 0,.int .i64 0,.bool false]:=⟨_,_,Xc,zeroValue265,fun w=>by kernel_rfl,rfl⟩
theorem FY:mq prog 281 1 [.int .i64 0,.int .i64 0]:=⟨_,_,_,underlying281,zeroValue281,Z5,rfl⟩
variable {E:World}
set_option maxRecDepth 20000
theorem Iv {x y:Int} (hx:bB x) (hy:bB y):aM prog E 209 [.int .i64 x,.int .i64 y] (.tup [.int .i64 (IntKind.i64.wrap (x*y)),.bool (decide (dk 2 x y))]):=by
 rw[←Ir]
 refine zp func209 Z (by decide) Z<|ai<|ao Z<|ab Z<|z6<|ai<|aa Z<|zh (Hy hx) Z<|aa Z<|zh (Hy hy) Z<|zh (xb _ _ (Cq hx) (Cq hy)) Z<|za (ke Z)<|za (iN Z Z)<|za (iN Z Z)<|ao Z<|ao Z<|z6<|ai<|ao Z<|z6<|zd<|ai<|aa Z<|ay Z Z<|aa Z<|ay Z Z<|za (Gv.neqB Y7 Z Z)<|z6<|ye (γ:=Int) [0,1,6,7] (fun m=>[(8,.int .u64 m)]) (fun m=>[]) (fun m=>m=if (!(decide (x<0) == decide (y<0)))=true then 9223372036854775808 else 9223372036854775807) ?_ (fun _ _ h=>h) ?_
 ·refine zy Z (fun c1=>?_) (fun c1=>?_)
  ·refine aW<|aa Z<|za (Gv.addW Z Z)<|ao Z<|z6 ?_
   exact ⟨_,gH,aK,aH,by simp_all<;>first|rfl|decide⟩
  ·refine zi ?_
   exact ⟨_,gH,aK,aH,by simp_all<;>first|rfl|decide⟩
 ·rintro m hm
  subst hm
  refine ai<|aa Z<|aa Z<|za (Gv.mulW Z Z)<|aa Z<|ak Z Z<|aj Z<|zq (s:=29) Z (fun c2=>?_) (fun c2=>?_)
  ·refine z8 Z Z c2<|aa Z<|z8 Z Z c2<|aa Z<|z8 Z Z c2<|za (Gv.leq Z Z)<|aw Z c2 Z<|ao Z<|ab Z<|z6<|zg<|qd (x:=.int _ _) (y:=.bool _) Z Z ?_
   simp_all
  ·refine z7 Z Z c2<|z7 Z Z c2<|z7 Z Z c2<|ax Z c2 Z<|ao Z<|ab Z<|z6<|zg<|qd (x:=.int _ _) (y:=.bool _) Z Z ?_
   simp_all
theorem pD (i:Nat) (h:fJ × Bool) (n:Int) (fits:Bool) (e:Int):aY prog E 206 [.po i 0,.int .i64 n,.bool fits,.int .i64 e] [(i,.cells 265 (AA h))] fun r O=>r=.tup []∧O=[(i,.cells 265 (AA (oe h n fits e)))]:=by
 refine zp func206 Z (by decide) Z<|zd<|ai<|aj Z<|aC Z<|z6<|ye (γ:=Int × Bool) [0] (fun g=>[(1,.int .i64 g.1)]) (fun g=>[(i,.cells 265 (AA (h.1,g.2)))]) (fun g=>g.1=(if fits then n else e)∧g.2=(h.2||!fits)) ?_ (fun _ _ h=>h) ?_
 ·refine zy Z (fun c=>?_) (fun c=>?_)
  ·refine aW<|aJ Z<|aa Z<|ap Z<|za (zf Xc Z Z6 (by decide) Z Z)<|yq (l:=[_]) (new:=[_,_,_]) Z6 Z Z Z Z Z Z .head Z Z<|ao Z<|z6 ?_
   exact ⟨(e,true),aK,aK,aH,by simp_all⟩
  ·refine zi ?_
   exact ⟨(n,h.2),aK,aK,aH,by simp_all⟩
 ·rintro ⟨m,w⟩ ⟨h1,h2⟩
  dsimp only at h1 h2
  subst h1 h2
  refine zr (fun j=>Nat.beq j 10) (by kernel_rfl) Z (zj (.r (.rest _)))<|ad 0 Z (cJ Z)<|ad 1 Z (cJ Z)<|ad 2 Z (zw Z)<|ad 3 Z (zf Xc Z Za (by decide) Z Z)<|ad 4 Z (Gv.loadAC (l:=[_,_]) Y5 Za Z ⟨_,.head⟩ Z Z)<|ad 5 Z (cD Z)<|aQ 6 Z<|zh (IW _) Z<|z6<|aQ 7 Z<|zh (Hx _ _) Z<|z6<|yp (i:=8) Z (by kernel_rfl) (by kernel_rfl) (by kernel_rfl) (by kernel_rfl) (zw Z)<|ad 9 Z (zf Xc Z Za (by decide) Z Z)<|yf<|yh (i:=10) Z (by kernel_rfl) (by kernel_rfl)<|yq (l:=[_,_]) (new:=[_,_,_]) Za Z Z Z Z Z Z .head Z Z<|z6<|ym (by kernel_rfl)<|yl ?_
  exact ⟨rfl,rfl⟩
set_option maxHeartbeats 4000000 in
theorem uQ (op:Int) (k:Nat) (hk:k≤2) (hop:op=2+(k:Int)) {a b:fJ} (ha:mu a) (hb:mu b):aM prog E 190 [.int .i64 op,.agg (m7 a),.agg (m7 b)] (.agg (AA (yM k a b))):=by
 obtain ⟨st,hst⟩:∃st,Hs (iu k) (fun x y=>decide (dk k x y)) (o6 k) (D8,false) a b=st:=⟨_,rfl⟩
 have hstep:∀(i j:Nat),j<2→st (2*i+(j+1))=oe (st (2*i+j)) (iu k (go a i) (go b j)) (decide (dk k (go a i) (go b j))) (o6 k (go a i) (go b j)):=fun i j hj=>by rw[←hst];exact Co i hj
 have h4:st 4=yM k a b:=by rw[←hst];rfl
 have h0:st 0=(D8,false):=by rw[←hst];rfl
 refine zp func190 Z (by decide) Z<|ai<|ya (cs:=_) Z Z Z<|ya (cs:=_) Z Z Z<|y7 (cs:=[.int .i64 0,.int .i64 0,.bool false]) zeroValue265 Z Z<|fun i6=>z6<|ai<|zh (FV) Z<|za (y3 (cps:=[(0,[_,_])]) (rs:=[_,_,.bool false]) Hz Z Z Z)<|y7 (cs:=[.int .i64 0,.int .i64 0,.bool false]) zeroValue265 Z Z<|fun i7=>y1 sizeOf265 Z Z Z Z Z Z .head Z<|z6<|zd<|ai<|au Y2 Z Z5 Z Z<|aA Zx Z<|au Y2 Z Z5 Z Z<|aA Zx Z<|za (Gv.buildA (cps:=[(0,[_]),(1,[_])]) (rs:=[_,_]) FY Z Z Z)<|aa Z<|z6<|zm<|y8 (γ:=Nat) [0,5,6,7,24] (fun i=>[(25,.int .i64 i)]) (fun i=>[(i7,.cells 265 (AA (st (2*i)))),(i6,.cells 265 [.int .i64 0,.int .i64 0,.bool false])]) (fun i=>i≤2) (fun i=>2 - i) 0 aK ⟨_,(.refl _),by rw[h0];rfl⟩ ((by omega)) ?_
 rintro i hi
 refine ai<|ay Z Z<|z6<|zd<|zt Z (fun ci=>?_) (fun ci=>?_)
 ·have hi2:i<2:=by omega
  have hx:=Cn ha i
  refine zi<|zd<|zm<|ai<|za (Gv.index1 (n:=2) (j:=i) (cs:=[.int .i64 a.1,.int .i64 a.2]) (v:=.int .i64 (go a i)) underlying281 Zx Z5 Z Z Z hi2 (yN hi2))<|ao Z<|z6<|ai<|au Y2 Z Z5 Z Z<|aA Zx Z<|au Y2 Z Z5 Z Z<|aA Zx Z<|za (Gv.buildA (cps:=[(0,[_]),(1,[_])]) (rs:=[_,_]) FY Z Z Z)<|aa Z<|z6<|zm<|y8 (γ:=Nat) [0,5,6,7,9,24,25,32] (fun j=>[(33,.int .i64 j)]) (fun j=>[(i7,.cells 265 (AA (st (2*i+j)))),(i6,.cells 265 [.int .i64 0,.int .i64 0,.bool false])]) (fun j=>j≤2) (fun j=>2 - j) 0 aK aH ((by omega)) ?_
  rintro j hj
  refine ai<|ay Z Z<|z6<|zd<|zt Z (fun cj=>?_) (fun cj=>?_)
  ·have hj2:j<2:=by omega
   have hy:=Cn hb j
   have hs:=hstep i j hj2
   refine zi<|zd<|zm<|ai<|za (Gv.index1 (n:=2) (j:=j) (cs:=[.int .i64 b.1,.int .i64 b.2]) (v:=.int .i64 (go b j)) underlying281 Zx Z5 Z Z Z hj2 (yN hj2))<|ao Z<|z6<|ai<|aa Z<|z6<|zm<|ai<|ak Z Z<|ab Z<|z6<|zt Z (fun c2=>?_) (fun c2=>?_)
   ·have hk0:k=0:=by omega
    subst hk0
    refine ai<|aa Z<|aa Z<|zh (It hx hy) Z<|za (ke Z)<|za (iN Z Z)<|za (jJ Z Z)<|ao Z<|ab Z<|z6<|aW<|aa Z<|aj Z<|aa Z<|ay Z Z<|zh (CA _) Z<|zu Z (zj (.l (.r (.rest _)))) (pD i7 _ _ _ _) ?_
    rintro r50 O50 ⟨rfl,rfl⟩
    refine z6<|aW<|aE Z Z<|aa Z<|z6 ?_
    exact ⟨j+1,wH,aK,⟨_,(.refl _),by rw[hs,o7 Ep (Gf _ (go b j))];rfl⟩,hj2,by omega⟩
   ·refine ai<|ak Z Z<|ab Z<|z6<|zt Z (fun c3=>?_) (fun c3=>?_)
    ·have hk0:k=1:=by omega
     subst hk0
     refine ai<|aa Z<|aa Z<|zh (Iu hx hy) Z<|za (ke Z)<|za (iN Z Z)<|za (jJ Z Z)<|ao Z<|ab Z<|z6<|aW<|aa Z<|aj Z<|aa Z<|ay Z Z<|zh (CA _) Z<|zu Z (zj (.l (.r (.rest _)))) (pD i7 _ _ _ _) ?_
     rintro r64 O64 ⟨rfl,rfl⟩
     refine z6<|aW<|aE Z Z<|aa Z<|z6 ?_
     exact ⟨j+1,wH,aK,⟨_,(.refl _),by rw[hs,o7 Eq (Gg _ (go b j))];rfl⟩,hj2,by omega⟩
    ·refine ai<|ak Z Z<|ab Z<|z6<|zt Z (fun c4=>?_) (fun c4=>?_)
     ·have hk0:k=2:=by omega
      subst hk0
      refine ai<|aa Z<|aa Z<|zh (Iv hx hy) Z<|za (ke Z)<|za (iN Z Z)<|za (jJ Z Z)<|ao Z<|ab Z<|z6<|aW<|aa Z<|aj Z<|aa Z<|ay Z Z<|aa Z<|ay Z Z<|za (Gv.neqB Y7 Z Z)<|zh (CA _) Z<|zu Z (zj (.l (.r (.rest _)))) (pD i7 _ _ _ _) ?_
      rintro r81 O81 ⟨rfl,rfl⟩
      refine z6<|aW<|aE Z Z<|aa Z<|z6 ?_
      exact ⟨j+1,wH,aK,⟨_,(.refl _),by rw[hs,o7 Cp (Gh _ (go b j))];rfl⟩,hj2,by omega⟩
     ·exfalso;omega
  ·have hj2:j=2:=by omega
   subst hj2
   refine y6<|aW<|aE Z Z<|aa Z<|z6 ?_
   exact ⟨i+1,nJ,aK,⟨_,(.refl _),by rw[show 2*(i+1)=2*i+2 by omega]⟩,hi2,by omega⟩
 ·have hi2:i=2:=by omega
  subst hi2
  refine y6<|ai<|za (Gv.loadWC isAgg265 sizeOf265 Z ⟨_,.head⟩ Z)<|y1 sizeOf265 Z Z Z Z Z Z .t1 Z<|z6<|zg<|dX.c1 Z ⟨_,.t1⟩ isAgg265 sizeOf265 Z ?_
  rw[←h4];try rfl
end Go.Proofs.YtdilpodccjlkgaaGreatDoor
namespace Go.Proofs.YtdilpodccjlkgaaGreatDoor
open Go.Proofs.Tryz
def lv (l:List fJ) (v:Int):fJ:=(l[v.toNat]?).getD D8
structure HA (n:Nat) (rule:List fJ→Int→fJ) (vs:List Int):Prop where
 mono:∀l l' v,l.length=n→l'.length=n→(∀u:Int,0≤u→Hp (lv l u) (lv l' u))→(∀u:Int,0≤u→mu (lv l u))→(∀u:Int,0≤u→mu (lv l' u))→v∈vs→Hp (rule l v) (rule l' v)
 ok:∀l v,l.length=n→(∀u:Int,0≤u→mu (lv l u))→v∈vs→mu (rule l v)
 rng:∀v∈vs,0≤v∧v<n
end Go.Proofs.YtdilpodccjlkgaaGreatDoor
namespace Go.Proofs.YtdilpodccjlkgaaGreatDoor
open Go.Proofs.Tryz
section
variable {n:Nat} {rule:List fJ→Int→fJ} {widn:Nat→Int→Option fJ} {vs:List Int} (hR:HA n rule vs) (hw:∀i v t,widn i v=some t→mu t)
include hR hw
end
end Go.Proofs.YtdilpodccjlkgaaGreatDoor
namespace Go.Proofs.YtdilpodccjlkgaaGreatDoor
open Go.Proofs.Tryz
end Go.Proofs.YtdilpodccjlkgaaGreatDoor
namespace Go.Proofs.YtdilpodccjlkgaaGreatDoor
open Go.Proofs.Tryz
open Go.Proofs
variable {E:World}
set_option maxRecDepth 20000
theorem HB (op:Int) (k:Nat) (hk:k≤2) (hop:op=2+(k:Int)) {a b:fJ} (ha:mu a) (hb:mu b):aM prog E 158 [.int .i64 op,.agg (m7 a),.agg (m7 b)] (.bool (decide (a.2<a.1∨b.2<b.1∨kg k a b))):=by
 have hcp:=uv k a b
 refine zp func158 Z (by decide) Z<|ai<|ya (cs:=_) Z Z Z<|ya (cs:=_) Z Z Z<|ab Z<|z6<|zd<|zd<|ye (γ:=Bool) [0,4,5] (fun u=>[(12,.bool u)]) (fun u=>[]) (fun u=>u=false) ?_ (fun _ _ h=>h) ?_
 ·refine aW<|aa Z<|za (q5 Z Z)<|aj Z<|zq (s:=9) Z (fun c=>?_) (fun c=>?_)
  ·exfalso;simp at c;omega
  ·refine z7 Z Z c<|z7 Z Z c<|ax Z c Z<|z6 ?_
   exact ⟨_,db,aK,aH,rfl⟩
 ·rintro u hu
  subst hu
  refine yg Z Z<|zi<|ai<|aa Z<|zh (FW _) Z<|aj Z<|zq (s:=18) Z (fun c1=>?_) (fun c1=>?_)
  ·refine z8 Z Z c1<|ae Y5 Za Z Z<|z8 Z Z c1<|zh (m8 _) Z<|z8 Z Z c1<|aj Z<|zq (s:=21) Z (fun c2=>?_) (fun c2=>?_)
   ·refine z7 Z Z c2<|z7 Z Z c2<|z8 Z Z c1<|aw Z c2 Z<|z8 Z Z c1<|aj Z<|z7 Z Z Z<|z7 Z Z Z<|z7 Z Z Z<|z7 Z Z Z<|z7 Z Z Z<|z7 Z Z Z<|z8 Z Z c1<|aw Z Z Z<|aw Z c1 Z<|ab Z<|z6<|zg<|zn (x:=.bool _) Z ?_
    exact jb (by simp_all)
   ·refine z8 Z Z c2<|ae Y5 Za Z Z<|z8 Z Z c2<|zh (m8 _) Z<|z8 Z Z c1<|ax Z c2 Z<|z8 Z Z c1<|aj Z<|zq (s:=25) Z (fun c3=>?_) (fun c3=>?_)
    ·refine z7 Z Z c3<|z7 Z Z c3<|z7 Z Z c3<|z7 Z Z c3<|z7 Z Z c3<|z7 Z Z c3<|z8 Z Z c1<|aw Z c3 Z<|aw Z c1 Z<|ab Z<|z6<|zg<|zn (x:=.bool _) Z ?_
     exact jb (by simp_all)
    ·refine z8 Z Z c3<|aa Z<|z8 Z Z c3<|ae Y5 Za Z Z<|z8 Z Z c3<|ae Y5 Za Z Z<|z8 Z Z c3<|zh (uQ op k hk hop ha hb) Z<|z8 Z Z c3<|za (Gv.field1 (v:=.bool _) Xc Z Ym Z Z)<|z8 Z Z c3<|aC Z<|z8 Z Z c1<|ax Z c3 Z<|aw Z c1 Z<|ab Z<|z6<|zg<|zn (x:=.bool _) Z ?_
     exact jb (by have h2:¬a.2<a.1:=(by simpa using c2);have h3:¬b.2<b.1:=(by simpa using c3);simp[h2,h3,hcp])
  ·exfalso;simp at c1;omega
end Go.Proofs.YtdilpodccjlkgaaGreatDoor
namespace Go.Proofs.YtdilpodccjlkgaaGreatDoor
open Go.Proofs.Tryz
open Go.Proofs
theorem HC:mq prog 47 1 [.int .i64 0,.int .i64 0]:=⟨_,_,_,Z1,zeroValue47,wz,rfl⟩
set_option maxRecDepth 20000
variable {E:World}
def gp (f:ac) (x:aF):Bool:=decide ((bY x.op).1=⟨#[]⟩)||!decide (x.args.length=(bb x.op).length)||!x.args.all (bc f)
def gK (f:ac) (x:aF):Bool:=(cR x.op&&!bc f x.dst)||(!cR x.op&&!decide (x.dst=-1))
def dL (f:ac) (x:aF):Bool:=!gp f x&&!gK f x&&(decide (x.num=0)||pg x.op)
def bC (f:ac) (t:fi):Bool:=if t.kind=0 then eL f t.to0&&decide (t.to1=0)&&decide (t.var=0) else if t.kind=1 then bc f t.var&&eL f t.to0&&eL f t.to1 else
 if t.kind=2 then bc f t.var&&decide (t.to0=0∧t.to1=0) else false
theorem uR (a b c d:Int) (w:World):(Op.equalIn 10000 47 (.agg [.int .i64 a,.int .i64 b].toArray) (.agg [.int .i64 c,.int .i64 d].toArray)).run prog w=.ok (decide (a=c∧b=d)) w:=Gl a b c d w 9998
theorem AU (f:ac) (x:aF) (hx:pn x.args):aM prog E 144 [.agg (bE f),.agg (bH x)] (.bool (dL f x)):=by
 have hl:=hx.lt
 refine zp func144 Z (by decide) Z<|ai<|ya (cs:=_) Z Z Z<|ya (cs:=_) Z Z Z<|ab Z<|z6<|ai<|au j5 Z Z2 Z Z<|aA Z4 Z<|zh (pl _) Z<|za (ke Z)<|za (iN Z Z)<|za (jJ Z Z)<|ao Z<|ab Z<|z6<|zd<|zm<|zd<|zr (fun j=>false) (by kernel_rfl) Z (zj (.rest _))<|ad 0 Z (bK j5 Z Z2 Z Z)<|ad 1 Z (cQ Z4 Z)<|aQ 2 Z<|zh (AK _) Z<|z6<|ad 3 Z (q4 Z Z)<|ad 4 Z (m5 Z)<|qj (s:=18) Z (fun c1=>?_) (fun c1=>?_)
 ·refine bX 5 Z Z Z c1<|bX 6 Z Z Z c1<|bX 7 Z Z Z c1<|bX 8 Z Z Z c1<|bX 9 Z Z Z c1<|bX 10 Z Z Z c1<|bX 11 Z Z Z c1<|bX 12 Z Z Z c1<|ad 13 Z (sX Z c1 Z)<|ad 14 Z (m5 Z)<|bX 15 Z Z Z Z<|bX 16 Z Z Z Z<|bX 17 Z Z Z Z<|bX 18 Z Z Z Z<|bX 19 Z Z Z Z<|ad 20 Z (sX Z Z Z)<|ad 21 Z (ms Z)<|bI<|yt Z Z<|ai<|ab Z<|z6<|zg<|zn (x:=.bool _) Z ?_
  exact jb (by simp_all[dL,gp,gK,Int.ofNat_inj]<;>grind)
 ·refine cG 5 Z Z Z c1 (bK j5 Z j7 Z Z)<|cG 6 Z Z Z c1 (e9 jf Z)<|cG 7 Z Z Z c1 (Gv.lenM wy Z)<|cG 8 Z Z Z c1 (bK j5 Z Z2 Z Z)<|cG 9 Z Z Z c1 (cQ Z4 Z)<|aQ 10 Z<|z8 Z Z c1<|zh (pk _) Z<|z6<|cG 11 Z Z Z c1 (Gv.lenM underlying218 Z)<|cG 12 Z Z Z c1 (Gv.neqI Z Z)<|ad 13 Z (rz Z c1 Z)<|ad 14 Z (m5 Z)<|qj (s:=28) Z (fun c2=>?_) (fun c2=>?_)
  ·refine bX 15 Z Z Z c2<|bX 16 Z Z Z c2<|bX 17 Z Z Z c2<|bX 18 Z Z Z c2<|bX 19 Z Z Z c2<|ad 20 Z (sX Z c2 Z)<|ad 21 Z (ms Z)<|bI<|yt Z Z<|ai<|ab Z<|z6<|zg<|zn (x:=.bool _) Z ?_
   exact jb (by simp_all[dL,gp,gK,Int.ofNat_inj]<;>grind)
  ·refine cG 15 Z Z Z c2 (yw jv jj Z Z)<|cG 16 Z Z Z c2 (bK j5 Z j7 Z Z)<|cG 17 Z Z Z c2 (e9 jf Z)<|aQ 18 Z<|z8 Z Z c2<|zh (sd _ _ (by omega)) Z<|z6<|cG 19 Z Z Z c2 (Gv.not Z)<|ad 20 Z (rz Z c2 Z)<|ad 21 Z (ms Z)<|bI<|zy Z (fun c3=>?_) (fun c3=>?_)
   ·refine ai<|ab Z<|z6<|zg<|zn (x:=.bool _) Z ?_
    exact jb (by simp_all[dL,gp,gK,Int.ofNat_inj]<;>grind)
   ·refine ai<|aj Z<|aj Z<|zq (s:=37) Z (fun c4=>?_) (fun c4=>?_)
    ·refine z8 Z Z c4<|ae jv jj Z Z<|z8 Z Z c4<|au j5 Z wz Z Z<|z8 Z Z c4<|aA j6 Z<|z8 Z Z c4<|zh (kK _ _) Z<|z8 Z Z c4<|aC Z<|aw Z c4 Z<|aj Z<|zq (s:=44) Z (fun c5=>?_) (fun c5=>?_)
     ·refine z7 Z Z c5<|z7 Z Z c5<|z7 Z Z c5<|zk Z Z<|zk Z Z<|zk Z Z<|z7 Z Z c5<|aw Z c5 Z<|ab Z<|z6<|yt Z Z<|ai<|ab Z<|z6<|zg<|zn (x:=.bool _) Z ?_
      exact jb (by simp_all[dL,gp,gK,Int.ofNat_inj]<;>grind)
     ·refine z8 Z Z c5<|aj Z<|z8 Z Z c5<|aC Z<|z8 Z Z c5<|aj Z<|zq (s:=47) Z (fun c6=>?_) (fun c6=>?_)
      ·refine z8 Z Z c6<|au j5 Z wz Z Z<|z8 Z Z c6<|aA j6 Z<|z8 Z Z c6<|aO Z Z<|z8 Z Z c5<|aw Z c6 Z<|ax Z c5 Z<|ab Z<|z6<|zy Z (fun c7=>?_) (fun c7=>?_)
       ·refine ai<|ab Z<|z6<|zg<|zn (x:=.bool _) Z ?_
        exact jb (by simp_all[dL,gp,gK,Int.ofNat_inj]<;>grind)
       ·refine zi<|ai<|au j5 Z Z5 Z Z<|aA Zx Z<|ak Z Z<|aj Z<|zq (s:=56) Z (fun c8=>?_) (fun c8=>?_)
        ·refine z7 Z Z c8<|z7 Z Z c8<|z7 Z Z c8<|aw Z c8 Z<|ab Z<|z6<|zg<|zn (x:=.bool _) Z ?_
         exact jb (by simp_all[dL,gp,gK,Int.ofNat_inj]<;>grind)
        ·refine z8 Z Z c8<|au j5 Z Z2 Z Z<|z8 Z Z c8<|aA Z4 Z<|z8 Z Z c8<|zh (gk _) Z<|ax Z c8 Z<|ab Z<|z6<|zg<|zn (x:=.bool _) Z ?_
         exact jb (by simp_all[dL,gp,gK,Int.ofNat_inj]<;>grind)
      ·refine z7 Z Z c6<|z7 Z Z c6<|z7 Z Z c6<|z8 Z Z c5<|ax Z c6 Z<|ax Z c5 Z<|ab Z<|z6<|yg Z Z<|zi<|ai<|au j5 Z Z5 Z Z<|aA Zx Z<|ak Z Z<|aj Z<|zq (s:=56) Z (fun c9=>?_) (fun c9=>?_)
       ·refine z7 Z Z c9<|z7 Z Z c9<|z7 Z Z c9<|aw Z c9 Z<|ab Z<|z6<|zg<|zn (x:=.bool _) Z ?_
        exact jb (by simp_all[dL,gp,gK,Int.ofNat_inj]<;>grind)
       ·refine z8 Z Z c9<|au j5 Z Z2 Z Z<|z8 Z Z c9<|aA Z4 Z<|z8 Z Z c9<|zh (gk _) Z<|ax Z c9 Z<|ab Z<|z6<|zg<|zn (x:=.bool _) Z ?_
        exact jb (by simp_all[dL,gp,gK,Int.ofNat_inj]<;>grind)
    ·refine z7 Z Z c4<|z7 Z Z c4<|z7 Z Z c4<|z7 Z Z c4<|z7 Z Z c4<|ax Z c4 Z<|aj Z<|z8 Z Z Z<|aj Z<|z8 Z Z Z<|aC Z<|z8 Z Z Z<|aj Z<|zq (s:=47) Z (fun c10=>?_) (fun c10=>?_)
     ·refine z8 Z Z c10<|au j5 Z wz Z Z<|z8 Z Z c10<|aA j6 Z<|z8 Z Z c10<|aO Z Z<|z8 Z Z Z<|aw Z c10 Z<|ax Z Z Z<|ab Z<|z6<|zy Z (fun c11=>?_) (fun c11=>?_)
      ·refine ai<|ab Z<|z6<|zg<|zn (x:=.bool _) Z ?_
       exact jb (by simp_all[dL,gp,gK,Int.ofNat_inj]<;>grind)
      ·refine zi<|ai<|au j5 Z Z5 Z Z<|aA Zx Z<|ak Z Z<|aj Z<|zq (s:=56) Z (fun c12=>?_) (fun c12=>?_)
       ·refine z7 Z Z c12<|z7 Z Z c12<|z7 Z Z c12<|aw Z c12 Z<|ab Z<|z6<|zg<|zn (x:=.bool _) Z ?_
        exact jb (by simp_all[dL,gp,gK,Int.ofNat_inj]<;>grind)
       ·refine z8 Z Z c12<|au j5 Z Z2 Z Z<|z8 Z Z c12<|aA Z4 Z<|z8 Z Z c12<|zh (gk _) Z<|ax Z c12 Z<|ab Z<|z6<|zg<|zn (x:=.bool _) Z ?_
        exact jb (by simp_all[dL,gp,gK,Int.ofNat_inj]<;>grind)
     ·refine z7 Z Z c10<|z7 Z Z c10<|z7 Z Z c10<|z8 Z Z Z<|ax Z c10 Z<|ax Z Z Z<|ab Z<|z6<|yg Z Z<|zi<|ai<|au j5 Z Z5 Z Z<|aA Zx Z<|ak Z Z<|aj Z<|zq (s:=56) Z (fun c13=>?_) (fun c13=>?_)
      ·refine z7 Z Z c13<|z7 Z Z c13<|z7 Z Z c13<|aw Z c13 Z<|ab Z<|z6<|zg<|zn (x:=.bool _) Z ?_
       exact jb (by simp_all[dL,gp,gK,Int.ofNat_inj]<;>grind)
      ·refine z8 Z Z c13<|au j5 Z Z2 Z Z<|z8 Z Z c13<|aA Z4 Z<|z8 Z Z c13<|zh (gk _) Z<|ax Z c13 Z<|ab Z<|z6<|zg<|zn (x:=.bool _) Z ?_
       exact jb (by simp_all[dL,gp,gK,Int.ofNat_inj]<;>grind)
theorem AW (f:ac) (t:fi):aM prog E 145 [.agg (bE f),.agg (oH t)] (.bool (bC f t)):=by
 refine zp func145 Z (by decide) Z<|ai<|ya (cs:=_) Z Z Z<|ya (cs:=_) Z Z Z<|ab Z<|z6<|zd<|ai<|au je Z Y0 Z Z<|aA Ye Z<|z6<|zm<|ai<|ak Z Z<|ab Z<|z6<|zy Z (fun c14=>?_) (fun c14=>?_)
 ·refine ai<|ae jv jj Z Z<|au je Z Zd Z Z<|za (q3 (j:=0) Z1 wz Z Z Z (by decide) Z)<|aA j6 Z<|zh (oI _ _) Z<|aj Z<|zq (s:=14) Z (fun c15=>?_) (fun c15=>?_)
  ·refine z8 Z Z c15<|au je Z Zd Z Z<|z8 Z Z c15<|za (q3 (j:=1) Z1 wz Z Z Z (by decide) Z)<|z8 Z Z c15<|aA j6 Z<|z8 Z Z c15<|ak Z Z<|aw Z c15 Z<|aj Z<|zq (s:=20) Z (fun c16=>?_) (fun c16=>?_)
   ·refine z8 Z Z c16<|au je Z wz Z Z<|z8 Z Z c16<|aA j6 Z<|z8 Z Z c16<|ak Z Z<|aw Z c16 Z<|ab Z<|z6<|zg<|zn (x:=.bool _) Z ?_
    exact jb (by simp_all[bC]<;>grind)
   ·refine z7 Z Z c16<|z7 Z Z c16<|z7 Z Z c16<|ax Z c16 Z<|ab Z<|z6<|zg<|zn (x:=.bool _) Z ?_
    exact jb (by simp_all[bC]<;>grind)
  ·refine z7 Z Z c15<|z7 Z Z c15<|z7 Z Z c15<|z7 Z Z c15<|ax Z c15 Z<|aj Z<|z7 Z Z Z<|z7 Z Z Z<|z7 Z Z Z<|ax Z Z Z<|ab Z<|z6<|zg<|zn (x:=.bool _) Z ?_
   exact jb (by simp_all[bC]<;>grind)
 ·refine ai<|ak Z Z<|ab Z<|z6<|zy Z (fun c17=>?_) (fun c17=>?_)
  ·refine ai<|ae jv jj Z Z<|au je Z wz Z Z<|aA j6 Z<|zh (kK _ _) Z<|aj Z<|zq (s:=31) Z (fun c18=>?_) (fun c18=>?_)
   ·refine z8 Z Z c18<|ae jv jj Z Z<|z8 Z Z c18<|au je Z Zd Z Z<|z8 Z Z c18<|za (q3 (j:=0) Z1 wz Z Z Z (by decide) Z)<|z8 Z Z c18<|aA j6 Z<|z8 Z Z c18<|zh (oI _ _) Z<|aw Z c18 Z<|aj Z<|zq (s:=38) Z (fun c19=>?_) (fun c19=>?_)
    ·refine z8 Z Z c19<|ae jv jj Z Z<|z8 Z Z c19<|au je Z Zd Z Z<|z8 Z Z c19<|za (q3 (j:=1) Z1 wz Z Z Z (by decide) Z)<|z8 Z Z c19<|aA j6 Z<|z8 Z Z c19<|zh (oI _ _) Z<|aw Z c19 Z<|ab Z<|z6<|zg<|zn (x:=.bool _) Z ?_
     exact jb (by simp_all[bC]<;>grind)
    ·refine z7 Z Z c19<|z7 Z Z c19<|z7 Z Z c19<|z7 Z Z c19<|z7 Z Z c19<|ax Z c19 Z<|ab Z<|z6<|zg<|zn (x:=.bool _) Z ?_
     exact jb (by simp_all[bC]<;>grind)
   ·refine z7 Z Z c18<|z7 Z Z c18<|z7 Z Z c18<|z7 Z Z c18<|z7 Z Z c18<|ax Z c18 Z<|aj Z<|z7 Z Z Z<|z7 Z Z Z<|z7 Z Z Z<|z7 Z Z Z<|z7 Z Z Z<|ax Z Z Z<|ab Z<|z6<|zg<|zn (x:=.bool _) Z ?_
    exact jb (by simp_all[bC]<;>grind)
  ·refine ai<|ak Z Z<|ab Z<|z6<|zy Z (fun c20=>?_) (fun c20=>?_)
   ·refine ai<|ae jv jj Z Z<|au je Z wz Z Z<|aA j6 Z<|zh (kK _ _) Z<|aj Z<|zq (s:=51) Z (fun c21=>?_) (fun c21=>?_)
    ·refine z8 Z Z c21<|au je Z Zd Z Z<|z8 Z Z c21<|ae isAgg47 Zd Z Z<|z8 Z Z c21<|za (Gv.buildA (cps:=[]) (rs:=[.int .i64 0,.int .i64 0]) HC Z Z Z)<|z8 Z Z c21<|za (Gv.eqlP (xs:=[.int _ _,.int _ _]) (ys:=[.int _ _,.int _ _]) (by kernel_rfl) Z Z (fun w=>uR _ _ _ _ w))<|aw Z c21 Z<|ab Z<|z6<|zg<|zn (x:=.bool _) Z ?_
     exact jb (by simp_all[bC]<;>grind)
    ·refine z7 Z Z c21<|z7 Z Z c21<|z7 Z Z c21<|z7 Z Z c21<|ax Z c21 Z<|ab Z<|z6<|zg<|zn (x:=.bool _) Z ?_
     exact jb (by simp_all[bC]<;>grind)
   ·refine zi<|ai<|ab Z<|z6<|zg<|zn (x:=.bool _) Z ?_
    exact jb (by simp_all[bC]<;>grind)
def rF (s:ByteArray):List AV:=[.str s]
end Go.Proofs.YtdilpodccjlkgaaGreatDoor
