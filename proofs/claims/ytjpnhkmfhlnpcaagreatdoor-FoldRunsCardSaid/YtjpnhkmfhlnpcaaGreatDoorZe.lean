/- The document's own functions: names, the table, digits, what is the same, what has a text. No conditions but bounds. -/
import Derived.Test.YtjpnhkmfhlnpcaaGreatDoorZd
import Derived.Laws.CopyRow
import Derived.Shelf.Small.Bits
import Derived.Shelf.Small.Wraps
import Derived.Shelf.Strconv.Itoa0
import Derived.Shelf.Strconv.Itoa1
import Derived.Shelf.LaysM
import Derived.Shelf.Strconv.Itoa2
import Derived.Shelf.Strconv.Itoa3
import Derived.Shelf.Sort.Plain
import Derived.Shelf.Unicode.Props
import Derived.Shelf.Unicode.PropsLaid
import Derived.Shelf.Bits.Mul64
import Derived.Shelf.Unicode.Is16White
import Derived.Shelf.Unicode.IsSpaceAny
import Derived.Shelf.Unicode.Is16WhiteD
import Derived.Shelf.Unicode.IsSpaceAnyD
import Derived.Shelf.Unicode.Is16Any
import Derived.Shelf.Unicode.Is32Any
import Derived.Shelf.Unicode.ExclAny
import Derived.Shelf.Unicode.PredsAny
import Derived.Shelf.Unicode.PredsPay
import Derived.Shelf.Slices.Turned
import Derived.Shelf.Slices.Reverse
import Derived.Shelf.Slices.Equal
import Derived.Ground.Names2Prog
import Derived.Shelf.Slices.Clone
import Derived.Shelf.Slices.SearchI
import Derived.Shelf.Slices.Cells
import Derived.Shelf.Slices.In.SortNone
import Derived.Shelf.Slices.Empties2
import Derived.Ground.SlgnProg
import Derived.Shelf.SlicesE.Reverse
import Derived.Shelf.SlicesE.Clone
import Derived.Test.YtjpnhkmfhlnpcaaGreatDoorChecked
import Derived.Test.YtjpnhkmfhlnpcaaGreatDoorZc
import Derived.Lib.ItoaLen
import Derived.Lib.Join
set_option linter.unusedVariables false
set_option linter.unusedSimpArgs false
set_option linter.unusedSectionVars false
namespace Go.Proofs.YtjpnhkmfhlnpcaaGreatDoor
section
open Go.Proofs.Tryz
open Go.Proofs
theorem Is:iJ prog 162 #[(0,1),(1,1)] [.int .i64 0,.int .i64 0]:=⟨_,_,Yb,zeroValue162,fun w=>by kernel_rfl,rfl⟩
theorem xh:dw prog 163 162 1 2 [.int .i64 0,.int .i64 0]:=⟨_,Y4,sizeOf162,zeroValue162,by decide,by decide,by kernel_rfl⟩
variable {E:World}
set_option maxRecDepth 20000
def JV (r:List (Int × Nat)):List AV:=(r.reverse.map fun q=>[AV.int .i64 q.1,AV.int .i64 (q.2:Int)]).flatten
theorem jW (b:Int) (k:Nat) (r:List (Int × Nat)):JV ((b,k)::r)=JV r++[AV.int .i64 b,AV.int .i64 (k:Int)]:=by unfold JV;simp
theorem sn (r:List (Int × Nat)):(JV r).length=r.length*2:=by
 induction r with
 |nil=>rfl
 |cons q r ih=>obtain ⟨b,k⟩:=q;rw[jW,qw,ih];simp only[List.length_cons,List.length_nil];omega
theorem DY {f:ab} {n k:Nat} (hE:EOk (au f) n):(dW (au f) n k).2.1.length+(dW (au f) n k).2.2.length≤n:=by
 have h:=d7 hE k
 have h2:=mn _ (dJ n) h.nodup fun x hx=>iH.2 (h.rng x hx)
 rw[eY,qw,qx] at h2
 exact h2
theorem vA (f:ab) (hE:br f) (hn:f.blocks.length≤100000) (hrev:∀(l:List Int) (i:Nat) (T:TypeId),l.length≤200000→bY prog E 89 [.own i l.length] [(i,.grow 1 T (cI l))] fun r O=>r=.tup []∧O=[(i,.grow 1 T (cI l.reverse))]) :
  aZ prog E 67 [.agg (bQ f)] (.fro 1 ((aK (au f) f.blocks.length).map b5)):=by
 have hG:=hE.grph
 have hpos:=hG.npos
 refine zo func67 Z (by decide) Z<|ah<|yb (cs:=_) Z Z Z<|za (rv Z)<|z7<|ah<|aq ji Z Z0 Z Z<|aM Z6 Z<|ae jl Z<|ao.makeB (m:=f.blocks.length) jn Y2 Z Z Z Z Z (by simp) (by simp) (by show (1:Int)*_≤_;omega) (by omega)<|fun i12=>za (ef Z)<|z7<|ah<|za (kP Z)<|za (yj (j:=0) jn Z3 Z Z Z ⟨_,.head⟩ (by first|rfl|(simp[aJ,bt];done)|(simp[aJ,bt];omega)) hG.npos)<|qe (j:=0) Z3 Z Z .head (by first|omega|(simp;omega))<|z7<|ah<|za (rv Z)<|z7<|ah<|za (ya (cps:=[(0,[_]),(1,[_])]) (rs:=[_,_]) Is Z Z Z)<|ao.buildSliceO (cps:=[(0,[_,_])]) (rs:=[_,_]) xh Z Z Z Z Z<|fun i16=>za (ef Z)<|z7<|jR (t:=4) (k:=1) (T:=3) Z<|fun i4=>yc (zn (zp .t1))<|zb<|zg<|y7 (γ:=Nat × Nat × Nat) [1,3] (fun g=>[(4,.own g.2.1 (dW (au f) f.blocks.length g.1).2.1.length),(5,.own g.2.2 (dW (au f) f.blocks.length g.1).2.2.length)]) (fun g=>[(g.2.2,.grow 2 162 (JV (dW (au f) f.blocks.length g.1).2.2)),(g.2.1,.grow 1 3 (cI (dW (au f) f.blocks.length g.1).2.1)),(i12,.grow 1 4 (cB (dW (au f) f.blocks.length g.1).1))]) (fun g=>g.1≤4*f.blocks.length∧(dW (au f) f.blocks.length g.1).1.length=f.blocks.length) (fun g=>lE (dW (au f) f.blocks.length g.1)) (0,i4,i16) eE aN (⟨qt _,by simp[dW,ow]⟩) ?_
 rintro ⟨k,io,il⟩ ⟨hk,hsl⟩
 try dsimp only at *
 have hI:=d7 hG.toEOk k
 have hlen:=DY (k:=k) hG.toEOk
 have hlt:=ox hG.toEOk k
 have hstep:dW (au f) f.blocks.length (k+1)=re (au f) (dW (au f) f.blocks.length k):=rfl
 rcases hx:dW (au f) f.blocks.length k with ⟨seen,out,st⟩
 rw[hx] at hI hlen hlt hstep hsl
 dsimp only at hlen hlt hsl
 cases st with
 |nil=>
 ·refine zb<|ah<|za (kP Z)<|za (Gv.lenO Y4 Z)<|za (yy Z Z)<|z7<|yp Z (by simp) ?_
  have hfin:=BW (E:=au f) (n:=f.blocks.length) (k:=k) (by rw[hx]) hk
  refine zz<|ah<|za (kP Z)<|yu Z (zu (.r (.l (.r (.rest _))))) (hrev out io 3 (by omega)) ?_
  rintro r82 O82 ⟨rfl,rfl⟩
  refine z7<|yc (aX.knowI (t:=4) Z .head (by simp))<|ah<|bC Z<|za (va Z)<|z7<|zf<|zh (x:=.fro _ _) Z ?_
  unfold aK;rw[hfin,hx];rfl
  |cons q r=>
 ·obtain ⟨b,j⟩:=q
  have hbr:=hI.rng b (by simp)
  have hbl:b.toNat<f.blocks.length:=by omega
  have hEb:au f b=aU f.blocks[b.toNat].term:=k7 hbr.1 hbl
  have hjl:=(hI.part (b,j) (by simp)).1
  dsimp only at hjl
  have hmn:lE (dW (au f) f.blocks.length (k+1))<lE (dW (au f) f.blocks.length k):=by rw[hstep,hx];exact p8.less hG.toEOk hI (by simp)
  have hk2:k+1≤4*f.blocks.length:=by simp at hlt;omega
  have hsn:(dW (au f) f.blocks.length (k+1)).1.length=f.blocks.length:=(d7 hG.toEOk (k+1)).len
  rw[kX] at hstep
  rw[hx] at hmn
  rw[jW]
  simp only[List.length_cons] at hlen ⊢
  refine zb<|ah<|za (kP Z)<|za (Gv.lenO Y4 Z)<|za (yy Z Z)<|z7<|yt Z (by simp)<|ze<|zg<|ah<|za (kP Z)<|za (kP Z)<|za (Gv.lenO Y4 Z)<|za (Gv.sub Z Z (by unfold ko;show _∧((r.length+1:Nat):Int) - 1≤_;omega))<|za (Gv.idxOL (j:=r.length) Y4 sizeOf162 Z Z (by show ((r.length+1:Nat):Int) - 1=_;omega) ⟨_,.head⟩ (by simp) (by show r.length<r.length+1;omega) (show r.length*2=(JV r).length by rw[sn]))<|za (DS Z)<|z7<|zb<|zq (fun j=>false) (by kernel_rfl) Z (zu (.r (.rest _)))<|ak 0 Z (eK ji Z Z0 Z Z)<|ak 1 Z (lL Z6 Z)<|ak 2 Z (eU Z)<|ak 3 Z (zw Z)<|ak 4 Z (zc Yb Z je (by decide) Z Z)<|ak 5 Z (Gv.loadL (c:=.int _ _) (j:=0) jj Z Z ⟨_,.head⟩ Z)<|ak 6 Z (cH b.toNat jl jv Z Z (by omega) (qq hbl))<|ak 7 Z (eK jh Z Z4 Z Z)<|ak 8 Z (yv Yo Z4 Z Z)<|bO 9 Z<|zi (mA _) Z<|z7<|ak 10 Z (va Z)<|eG<|zb<|ah<|bn Z<|az Z<|za (zc Yb Z je (by decide) Z Z)<|za (Gv.loadL (c:=.int _ _) (j:=1) jj Z Z ⟨_,.head⟩ Z)<|bC Z<|ae jd Z ?_
  refine ax Z Z<|z7<|zr Z (fun ce=>?_) (fun ce=>?_)
  ·have hje:j=(au f b).length:=by rw[hEb];have h0:(j:Int)=((aU f.blocks[b.toNat].term).length:Int):=(by simpa using ce);omega
   rw[if_pos hje] at hstep
   refine ah<|za (kP Z)<|bn Z<|az Z<|za (zc Yb Z je (by decide) Z Z)<|za (Gv.loadL (c:=.int _ _) (j:=0) jj Z Z ⟨_,.head⟩ Z)<|yf (rows:=[[_]]) gV Z Z Z Z Z<|ym (k:=1) jd Zo Z Z Z Z Z (fun _=>.t1) (by rw[aJ];omega) (by decide) Z (by show (out.length+1)*8≤_;omega) (by show out.length+1≤_;omega)<|fun i48=>za (ef Z)<|z7<|ah<|za (kP Z)<|za (kP Z)<|za (Gv.lenO Y4 Z)<|za (Gv.sub Z Z (by unfold ko;show _∧((r.length+1:Nat):Int) - 1≤_;omega))<|ao.cutLast (j:=r.length) Y4 sizeOf162 Z Z (by show ((r.length+1:Nat):Int) - 1=_;omega) .head (by decide) (by rw[sn])<|za (ef Z)<|z7<|zz ?_
   exact ⟨(k+1,i48,il),eE,⟨(by rw[hstep,qw];rfl),(by rw[hstep];rfl),trivial⟩,⟨_,(.refl _),by rw[hstep];dsimp only;rw[←oM];rfl⟩,⟨hk2,hsn⟩,by exact hmn⟩
  ·have hje:¬j=(au f b).length:=by rw[hEb];have h0:¬(j:Int)=((aU f.blocks[b.toNat].term).length:Int):=(by simpa using ce);omega
   have hj2:j<(aU f.blocks[b.toNat].term).length:=by rw[←hEb];omega
   rw[if_neg hje] at hstep
   obtain ⟨c,hc⟩:∃c,ge (au f b) j=c:=⟨_,rfl⟩
   have hcj:(aU f.blocks[b.toNat].term)[j]?=some c:=by rw[←hEb];unfold ge at hc;rw[←hc,hEb,qq hj2];rfl
   have hcr:=hG.rng b hbr.1 hbr.2 c (by rw[hEb];exact w0 hcj)
   rw[hc] at hstep
   have hgs:seen[c.toNat]?=some (gb seen c):=by unfold gb;rw[qq (by omega)];rfl
   have hl2:=hG.len b
   rw[hEb] at hl2
   refine ze<|ah<|bC Z<|bn Z<|az Z<|za (zc Yb Z je (by decide) Z Z)<|za (Gv.loadL (c:=.int _ _) (j:=1) jj Z Z ⟨_,.head⟩ Z)<|za (cH j jd je Z Z Z hcj)<|aE jj Z<|aw Z<|z7<|ah<|bn Z<|az Z<|za (zc Yb Z je (by decide) Z Z)<|za (Gv.loadL (c:=.int _ _) (j:=1) jj Z Z ⟨_,.head⟩ Z)<|aC Z Z<|az Z<|za (zc Yb Z je (by decide) Z Z)<|ao.storeL (j:=1) (l:=[_]) (new:=[_,_]) je Z Z Z Z Z Z Z .head Z Z Z<|z7<|ah<|za (kP Z)<|aa Z<|za (yj (j:=c.toNat) jn Z3 Z Z (by omega) ⟨_,.t2⟩ (by first|rfl|(simp[aJ,bt];done)|(simp[aJ,bt];omega)) (by omega))<|za (Gv.loadB (j:=c.toNat) Yc Z ⟨_,.t2⟩ hgs)<|aD Z<|z7<|zr Z (fun cs=>?_) (fun cs=>?_)
   ·rw[if_neg (by simpa using cs)] at hstep
    refine ah<|za (kP Z)<|aa Z<|za (yj (j:=c.toNat) jn Z3 Z Z (by omega) ⟨_,.t2⟩ (by first|rfl|(simp[aJ,bt];done)|(simp[aJ,bt];omega)) (by omega))<|qe (j:=c.toNat) Z3 Z Z .t2 (by first|omega|(simp;omega))<|z7<|bi<|za (kP Z)<|aa Z<|za (ya (cps:=[(0,[_]),(1,[_])]) (rs:=[_,_]) Is Z Z Z)<|yf (rows:=[[_,_]]) xh Z Z Z Z Z<|ym (k:=2) Y4 type162 Z Z Z Z Z (fun _=>.head) (by rw[qw,sn];show r.length*2+2=(r.length+1)*2;omega) (by decide) Z (by show (r.length+1+1)*16≤_;omega) (by show r.length+1+1≤_;omega)<|fun i80=>za (ef Z)<|z7 ?_
    exact ⟨(k+1,io,i80),eE,⟨(by rw[hstep];rfl),(by rw[hstep];rfl),trivial⟩,⟨_,(.refl _),by rw[hstep,jW,jW];rfl⟩,⟨hk2,hsn⟩,by exact hmn⟩
   ·rw[if_pos (by simpa using cs)] at hstep
    refine ze ?_
    exact ⟨(k+1,io,il),eE,⟨(by rw[hstep];rfl),(by rw[hstep];rfl),trivial⟩,⟨_,(.refl _),by rw[hstep,jW];rfl⟩,⟨hk2,hsn⟩,by exact hmn⟩
end
section
open Go.Proofs.Tryz
section
variable {E:World} {P:Program} {n:Nat} {l:List Oper} {W:Nat→Bool} {Q:aO→OL→Prop} {fuel:Nat} {listed:Array Bool} {env:aO} {O Os Om:OL}
end
end
section
open Go.Proofs.Tryz
section
variable {E:World} {P:Program} {ops:Array Oper} {K:aO→OL→Prop} {env:aO} {O O' O'':OL} {rest:List Oper}
variable {d ty:Nat} {pos:String} {af:Array Edge} {x y z:Operand} {t u e T:TypeId}
end
end
end Go.Proofs.YtjpnhkmfhlnpcaaGreatDoor
namespace Go.Proofs
open Go.Shelf
def Tryz.laysM284_ren:Go.Shelf.Ren:=⟨fun|284=>270|129=>127|317=>276|318=>277|n=>n,fun|53=>130|3=>3|212=>368|0=>0|4=>4|46=>160|5=>5|9=>9|n=>n,fun|17=>2|n=>n⟩
theorem Tryz.laysM284:Go.Proofs.LaysM.n284 prog Tryz.laysM284_ren:={
 mixed:=by kernel_rfl
 f129:=func127.trans (congrArg some (by kernel_rfl))
 f284:=func270.trans (congrArg some (by kernel_rfl))
 f317:=func276.trans (congrArg some (by kernel_rfl))
 f318:=func277.trans (congrArg some (by kernel_rfl))
 t0:=underlying0
 a0:=isAgg0
 z0:=sizeOf0
 v0:=zeroValue0
 t3:=underlying3
 a3:=isAgg3
 z3:=sizeOf3
 v3:=zeroValue3
 t4:=underlying4
 a4:=isAgg4
 z4:=sizeOf4
 v4:=zeroValue4
 t5:=underlying5
 a5:=isAgg5
 z5:=sizeOf5
 v5:=zeroValue5
 t9:=underlying9
 a9:=isAgg9
 z9:=sizeOf9
 v9:=zeroValue9
 t46:=underlying160
 a46:=isAgg160
 z46:=sizeOf160
 v46:=zeroValue160
 t53:=underlying130
 a53:=isAgg130
 z53:=sizeOf130
 v53:=zeroValue130
 t212:=underlying368
 a212:=isAgg368
 z212:=sizeOf368
 v212:=zeroValue368
 g17:=by kernel_rfl
 i0:=by kernel_rfl
 i3:=by kernel_rfl
 i4:=by kernel_rfl
 i5:=by kernel_rfl
 i9:=by kernel_rfl
 i46:=by kernel_rfl
 i53:=by kernel_rfl
 i212:=by kernel_rfl
 m17:=by kernel_rfl }
def Tryz.lays189_ren:Go.Shelf.Ren:=⟨fun|189=>65|125=>88|257=>87|128=>126|129=>127|294=>117|295=>118|296=>119|297=>120|298=>121|299=>122|216=>123|300=>124|301=>125|328=>154|329=>155|330=>156|331=>157|332=>158|215=>159|343=>181|n=>n,fun|28=>23|3=>3|46=>160|0=>0|51=>195|53=>130|4=>4|183=>188|182=>187|131=>192|5=>5|9=>9|218=>223|222=>227|228=>261|229=>127|n=>n,fun|n=>n⟩
theorem Tryz.lays189:Go.Proofs.Lays.n189 prog Tryz.lays189_ren:={
 mixed:=by kernel_rfl
 f125:=func88.trans (congrArg some (by kernel_rfl))
 f128:=func126.trans (congrArg some (by kernel_rfl))
 f129:=func127.trans (congrArg some (by kernel_rfl))
 f189:=func65.trans (congrArg some (by kernel_rfl))
 f215:=func159.trans (congrArg some (by kernel_rfl))
 f216:=func123.trans (congrArg some (by kernel_rfl))
 f257:=func87.trans (congrArg some (by kernel_rfl))
 f294:=func117.trans (congrArg some (by kernel_rfl))
 f295:=func118.trans (congrArg some (by kernel_rfl))
 f296:=func119.trans (congrArg some (by kernel_rfl))
 f297:=func120.trans (congrArg some (by kernel_rfl))
 f298:=func121.trans (congrArg some (by kernel_rfl))
 f299:=func122.trans (congrArg some (by kernel_rfl))
 f300:=func124.trans (congrArg some (by kernel_rfl))
 f301:=func125.trans (congrArg some (by kernel_rfl))
 f328:=func154.trans (congrArg some (by kernel_rfl))
 f329:=func155.trans (congrArg some (by kernel_rfl))
 f330:=func156.trans (congrArg some (by kernel_rfl))
 f331:=func157.trans (congrArg some (by kernel_rfl))
 f332:=func158.trans (congrArg some (by kernel_rfl))
 f343:=func181.trans (congrArg some (by kernel_rfl))
 t0:=underlying0
 a0:=isAgg0
 z0:=sizeOf0
 v0:=zeroValue0
 t3:=underlying3
 a3:=isAgg3
 z3:=sizeOf3
 v3:=zeroValue3
 t4:=underlying4
 a4:=isAgg4
 z4:=sizeOf4
 v4:=zeroValue4
 t5:=underlying5
 a5:=isAgg5
 z5:=sizeOf5
 v5:=zeroValue5
 t9:=underlying9
 a9:=isAgg9
 z9:=sizeOf9
 v9:=zeroValue9
 t28:=underlying23
 a28:=isAgg23
 z28:=sizeOf23
 v28:=zeroValue23
 t46:=underlying160
 a46:=isAgg160
 z46:=sizeOf160
 v46:=zeroValue160
 t51:=underlying195
 a51:=isAgg195
 z51:=sizeOf195
 v51:=zeroValue195
 t53:=underlying130
 a53:=isAgg130
 z53:=sizeOf130
 v53:=zeroValue130
 t131:=underlying192
 a131:=isAgg192
 z131:=sizeOf192
 v131:=zeroValue192
 t182:=underlying187
 a182:=isAgg187
 z182:=sizeOf187
 v182:=zeroValue187
 t183:=underlying188
 a183:=isAgg188
 z183:=sizeOf188
 v183:=zeroValue188
 t218:=underlying223
 a218:=isAgg223
 z218:=sizeOf223
 v218:=zeroValue223
 t222:=underlying227
 a222:=isAgg227
 z222:=sizeOf227
 v222:=zeroValue227
 t228:=underlying261
 a228:=isAgg261
 z228:=sizeOf261
 v228:=zeroValue261
 t229:=underlying127
 a229:=isAgg127
 z229:=sizeOf127
 v229:=zeroValue127 }
open Go.Sort Go.RowKit in
theorem Tryz.slices_Sort_int (blk off cap:Nat) (zs:List Int) (w:World) (hH:Holds (Value.int .i64) w blk off zs.toArray) (hblk:blk<w.heap.size) (hsz:zs.length<4611686018427387904) :
  Calls prog 65 #[.slice (some ⟨blk,off,none⟩) zs.length cap] w fun e w'=>
   e=.returned (.tuple #[])∧∃n os,w'=grow (putRow (Value.int .i64) (Sort.ahead w n) blk off (zs.mergeSort fun x y=>decide (x≤y)).toArray) os:=Any.slices_Sort_int Tryz.lays189 blk off cap zs w hH hblk hsz
def Tryz.lays200_ren:Go.Shelf.Ren:=⟨fun|200=>91|261=>128|311=>160|312=>161|n=>n,fun|21=>21|4=>4|51=>195|5=>5|119=>197|0=>0|141=>199|196=>232|193=>229|3=>3|198=>234|49=>39|194=>230|201=>237|226=>263|46=>160|227=>264|n=>n,fun|7=>0|8=>1|n=>n⟩
theorem Tryz.lays200:Go.Proofs.Lays.n200 prog Tryz.lays200_ren:={
 mixed:=by kernel_rfl
 f200:=func91.trans (congrArg some (by kernel_rfl))
 f261:=func128.trans (congrArg some (by kernel_rfl))
 f311:=func160.trans (congrArg some (by kernel_rfl))
 f312:=func161.trans (congrArg some (by kernel_rfl))
 t0:=underlying0
 a0:=isAgg0
 z0:=sizeOf0
 v0:=zeroValue0
 t3:=underlying3
 a3:=isAgg3
 z3:=sizeOf3
 v3:=zeroValue3
 t4:=underlying4
 a4:=isAgg4
 z4:=sizeOf4
 v4:=zeroValue4
 t5:=underlying5
 a5:=isAgg5
 z5:=sizeOf5
 v5:=zeroValue5
 t21:=underlying21
 a21:=isAgg21
 z21:=sizeOf21
 v21:=zeroValue21
 t46:=underlying160
 a46:=isAgg160
 z46:=sizeOf160
 v46:=zeroValue160
 t49:=underlying39
 a49:=isAgg39
 z49:=sizeOf39
 v49:=zeroValue39
 t51:=underlying195
 a51:=isAgg195
 z51:=sizeOf195
 v51:=zeroValue195
 t119:=underlying197
 a119:=isAgg197
 z119:=sizeOf197
 t141:=underlying199
 a141:=isAgg199
 z141:=sizeOf199
 v141:=zeroValue199
 t193:=underlying229
 a193:=isAgg229
 z193:=sizeOf229
 v193:=zeroValue229
 t194:=underlying230
 a194:=isAgg230
 z194:=sizeOf230
 v194:=zeroValue230
 t196:=underlying232
 a196:=isAgg232
 z196:=sizeOf232
 v196:=zeroValue232
 t198:=underlying234
 a198:=isAgg234
 z198:=sizeOf234
 v198:=zeroValue234
 t201:=underlying237
 a201:=isAgg237
 z201:=sizeOf237
 v201:=zeroValue237
 t226:=underlying263
 a226:=isAgg263
 z226:=sizeOf263
 v226:=zeroValue263
 t227:=underlying264
 a227:=isAgg264
 z227:=sizeOf264
 v227:=zeroValue264
 g7:=by kernel_rfl
 g8:=by kernel_rfl }
open Go.RowKit Go.Lib in
theorem Tryz.unicode_IsLetter_all (r:Int) (w:World) (hlo:-2147483648≤r) (hhi:r≤2147483647) (htab:Lib.TabIs prog w "unicode.properties" .u8 Lib.propertiesTab) (hV:RVar 1 letterT w) :
  Calls prog 91 #[.int .i32 r] w fun e w'=>e=.returned (.bool (isLetterU r))∧Below w.heap.size w w':=Any.unicode_IsLetter_all Tryz.lays200 (by kernel_rfl) r w hlo hhi htab hV
def Tryz.lays107_ren:Go.Shelf.Ren:=⟨fun|107=>68|108=>90|n=>n,fun|28=>23|3=>3|4=>4|0=>0|n=>n,fun|n=>n⟩
def Tryz.lays112_ren:Go.Shelf.Ren:=⟨fun|112=>89|n=>n,fun|28=>23|3=>3|4=>4|0=>0|n=>n,fun|n=>n⟩
theorem Tryz.lays112:Go.Proofs.Lays.n112 prog Tryz.lays112_ren:={
 mixed:=by kernel_rfl
 f112:=func89.trans (congrArg some (by kernel_rfl))
 t0:=underlying0
 a0:=isAgg0
 z0:=sizeOf0
 v0:=zeroValue0
 t3:=underlying3
 a3:=isAgg3
 z3:=sizeOf3
 v3:=zeroValue3
 t4:=underlying4
 a4:=isAgg4
 z4:=sizeOf4
 v4:=zeroValue4
 t28:=underlying23
 a28:=isAgg23
 z28:=sizeOf23
 v28:=zeroValue23 }
open Go.RowKit Go.Lib Go.Sort in
theorem Tryz.slices_Reverse_int (blk off cap:Nat) (zs:List Int) (w:World) (hH:Holds (Value.int .i64) w blk off zs.toArray) (hsz:zs.length≤9223372036854775807) :
  Calls prog 89 #[.slice (some ⟨blk,off,none⟩) zs.length cap] w fun e w'=>e=.returned (.tuple #[])∧∃n,w'=putRow (Value.int .i64) (Sort.ahead w n) blk off zs.reverse.toArray:=Any.slices_Reverse_int Tryz.lays112 blk off cap zs w hH hsz
open Go.RowKit Go.Lib Go.Sort in
theorem Tryz.slices_Reverse_int_empty (a:Option Addr) (cap:Nat) (w:World) :
  Calls prog 89 #[.slice a 0 cap] w fun e w'=>e=.returned (.tuple #[])∧w'=w:=Any.slices_Reverse_int_empty Tryz.lays112 a cap w
open Go.RowKit Go.Sort in
theorem Tryz.slices_Sort_int_none (p:Option Addr) (cap:Nat) (w:World) :
  Calls prog 65 #[.slice p 0 cap] w fun e w'=>e=.returned (.tuple #[])∧w'=w:=Any.slices_Sort_int_none Tryz.lays189 p cap w
end Go.Proofs
namespace Go.Proofs.YtjpnhkmfhlnpcaaGreatDoor
section
open Go.Proofs.Tryz
open Go.Proofs
variable {E:World}
set_option maxRecDepth 20000
theorem tM (l:List Int) (i:Nat) (T:TypeId) (hl:l.length≤200000):bY prog E 89 [.own i l.length] [(i,.grow 1 T (cI l))] fun r O=>r=.tup []∧O=[(i,.grow 1 T (cI l.reverse))]:=
 bY.turned (g:=List.reverse) (B:=200001) func89 rfl (by decide) (fun l=>List.length_reverse) (fun blk cap zs w hH _ hz=>(Tryz.slices_Reverse_int blk 0 cap zs w hH (by omega)).mono fun e w' ⟨h1,n,h2⟩=>⟨h1,n,#[],by rw[h2,Go.Sort.grow_empty]⟩)
  (fun cap w=>Tryz.slices_Reverse_int_empty none cap w) rfl (by omega)
theorem DZ (l:List Int) (i:Nat) (T:TypeId) (hl:l.length≤200000):bY prog E 65 [.own i l.length] [(i,.grow 1 T (cI l))] fun r O=>r=.tup []∧O=[(i,.grow 1 T (cI (mX l)))]:=
 bY.turned (g:=mX) (B:=200001) func65 rfl (by decide) (fun l=>(fY l).length_eq) (fun blk cap zs w hH hb hz=>Tryz.slices_Sort_int blk 0 cap zs w hH hb (by omega))
  (fun cap w=>Tryz.slices_Sort_int_none none cap w) rfl (by omega)
end
section
open Go.Proofs.Tryz
open Go.Proofs
theorem Gc:nL prog 56 1 [.int .i64 0,.int .i64 0]:=⟨_,_,_,ju,zeroValue56,je,rfl⟩
set_option maxRecDepth 20000
variable {E:World}
def fv (f:ab) (x:bc):Bool:=decide ((bM x.op).1=⟨#[]⟩)||!decide (x.args.length=(bw x.op).length)||!x.args.all (bl f)
def fK (f:ab) (x:bc):Bool:=(cQ x.op&&!bl f x.dst)||(!cQ x.op&&!decide (x.dst=-1))
def cR (f:ab) (x:bc):Bool:=!fv f x&&!fK f x&&(decide (x.num=0)||oB x.op)
def bj (f:ab) (t:cC):Bool:=if t.kind=0 then du f t.to0&&decide (t.to1=0)&&decide (t.var=0) else if t.kind=1 then bl f t.var&&du f t.to0&&du f t.to1 else
 if t.kind=2 then bl f t.var&&decide (t.to0=0∧t.to1=0) else false
theorem tN (a b c d:Int) (w:World):(Op.equalIn 10000 56 (.agg [.int .i64 a,.int .i64 b].toArray) (.agg [.int .i64 c,.int .i64 d].toArray)).run prog w=.ok (decide (a=c∧b=d)) w:=IP a b c d w 9998
theorem Ck (f:ab) (x:bc) (hx:p6 x.args):aZ prog E 110 [.agg (bQ f),.agg (bz x)] (.bool (cR f x)):=by
 have hl:=hx.lt
 refine zo func110 Z (by decide) Z<|ah<|yb (cs:=_) Z Z Z<|yb (cs:=_) Z Z Z<|ad Z<|z7<|ah<|aq jp Z Zz Z Z<|aE Y5 Z<|zi (oG _) Z<|za (J9 Z)<|za (DT Z Z)<|za (Im Z Z)<|aw Z<|ad Z<|z7<|zb<|zg<|zb<|zq (fun j=>false) (by kernel_rfl) Z (zu (.rest _))<|ak 0 Z (eK jp Z Zz Z Z)<|ak 1 Z (gH Y5 Z)<|bO 2 Z<|zi (B8 _) Z<|z7<|ak 3 Z (yz Z Z)<|ak 4 Z (DQ Z)<|bJ.case (s:=18) Z (fun c1=>?_) (fun c1=>?_)
 ·refine d5 5 Z Z Z c1<|d5 6 Z Z Z c1<|d5 7 Z Z Z c1<|d5 8 Z Z Z c1<|d5 9 Z Z Z c1<|d5 10 Z Z Z c1<|d5 11 Z Z Z c1<|d5 12 Z Z Z c1<|ak 13 Z (DR Z c1 Z)<|ak 14 Z (DQ Z)<|d5 15 Z Z Z Z<|d5 16 Z Z Z Z<|d5 17 Z Z Z Z<|d5 18 Z Z Z Z<|d5 19 Z Z Z Z<|ak 20 Z (DR Z Z Z)<|ak 21 Z (xg Z)<|eG<|yt Z Z<|ah<|ad Z<|z7<|zf<|zh (x:=.bool _) Z ?_
  exact jb (by simp_all[cR,fv,fK,Int.ofNat_inj]<;>grind)
 ·refine fJ 5 Z Z Z c1 (eK jp Z jm Z Z)<|fJ 6 Z Z Z c1 (lL jw Z)<|fJ 7 Z Z Z c1 (Gv.lenM jd Z)<|fJ 8 Z Z Z c1 (eK jp Z Zz Z Z)<|fJ 9 Z Z Z c1 (gH Y5 Z)<|bO 10 Z<|z8 Z Z c1<|zi (oF _) Z<|z7<|fJ 11 Z Z Z c1 (Gv.lenM underlying182 Z)<|fJ 12 Z Z Z c1 (yn Z Z)<|ak 13 Z (Ds Z c1 Z)<|ak 14 Z (DQ Z)<|bJ.case (s:=28) Z (fun c2=>?_) (fun c2=>?_)
  ·refine d5 15 Z Z Z c2<|d5 16 Z Z Z c2<|d5 17 Z Z Z c2<|d5 18 Z Z Z c2<|d5 19 Z Z Z c2<|ak 20 Z (DR Z c2 Z)<|ak 21 Z (xg Z)<|eG<|yt Z Z<|ah<|ad Z<|z7<|zf<|zh (x:=.bool _) Z ?_
   exact jb (by simp_all[cR,fv,fK,Int.ofNat_inj]<;>grind)
  ·refine fJ 15 Z Z Z c2 (yv js jk Z Z)<|fJ 16 Z Z Z c2 (eK jp Z jm Z Z)<|fJ 17 Z Z Z c2 (lL jw Z)<|bO 18 Z<|z8 Z Z c2<|zi (rl _ _ (by omega)) Z<|z7<|fJ 19 Z Z Z c2 (Gv.not Z)<|ak 20 Z (Ds Z c2 Z)<|ak 21 Z (xg Z)<|eG<|zr Z (fun c3=>?_) (fun c3=>?_)
   ·refine ah<|ad Z<|z7<|zf<|zh (x:=.bool _) Z ?_
    exact jb (by simp_all[cR,fv,fK,Int.ofNat_inj]<;>grind)
   ·refine ah<|ai Z<|ai Z<|zk (s:=37) Z (fun c4=>?_) (fun c4=>?_)
    ·refine z8 Z Z c4<|ac js jk Z Z<|z8 Z Z c4<|aq jp Z je Z Z<|z8 Z Z c4<|aE jj Z<|z8 Z Z c4<|zi (jT _ _) Z<|z8 Z Z c4<|aD Z<|ap Z c4 Z<|ai Z<|zk (s:=44) Z (fun c5=>?_) (fun c5=>?_)
     ·refine z6 Z Z c5<|z6 Z Z c5<|z6 Z Z c5<|zd Z Z<|zd Z Z<|zd Z Z<|z6 Z Z c5<|ap Z c5 Z<|ad Z<|z7<|yt Z Z<|ah<|ad Z<|z7<|zf<|zh (x:=.bool _) Z ?_
      exact jb (by simp_all[cR,fv,fK,Int.ofNat_inj]<;>grind)
     ·refine z8 Z Z c5<|ai Z<|z8 Z Z c5<|aD Z<|z8 Z Z c5<|ai Z<|zk (s:=47) Z (fun c6=>?_) (fun c6=>?_)
      ·refine z8 Z Z c6<|aq jp Z je Z Z<|z8 Z Z c6<|aE jj Z<|z8 Z Z c6<|za (yn Z Z)<|z8 Z Z c5<|ap Z c6 Z<|al Z c5 Z<|ad Z<|z7<|zr Z (fun c7=>?_) (fun c7=>?_)
       ·refine ah<|ad Z<|z7<|zf<|zh (x:=.bool _) Z ?_
        exact jb (by simp_all[cR,fv,fK,Int.ofNat_inj]<;>grind)
       ·refine ze<|ah<|aq jp Z Z8 Z Z<|aE Y9 Z<|ax Z Z<|ai Z<|zk (s:=56) Z (fun c8=>?_) (fun c8=>?_)
        ·refine z6 Z Z c8<|z6 Z Z c8<|z6 Z Z c8<|ap Z c8 Z<|ad Z<|z7<|zf<|zh (x:=.bool _) Z ?_
         exact jb (by simp_all[cR,fv,fK,Int.ofNat_inj]<;>grind)
        ·refine z8 Z Z c8<|aq jp Z Zz Z Z<|z8 Z Z c8<|aE Y5 Z<|z8 Z Z c8<|zi (fk _) Z<|al Z c8 Z<|ad Z<|z7<|zf<|zh (x:=.bool _) Z ?_
         exact jb (by simp_all[cR,fv,fK,Int.ofNat_inj]<;>grind)
      ·refine z6 Z Z c6<|z6 Z Z c6<|z6 Z Z c6<|z8 Z Z c5<|al Z c6 Z<|al Z c5 Z<|ad Z<|z7<|yp Z Z<|ze<|ah<|aq jp Z Z8 Z Z<|aE Y9 Z<|ax Z Z<|ai Z<|zk (s:=56) Z (fun c9=>?_) (fun c9=>?_)
       ·refine z6 Z Z c9<|z6 Z Z c9<|z6 Z Z c9<|ap Z c9 Z<|ad Z<|z7<|zf<|zh (x:=.bool _) Z ?_
        exact jb (by simp_all[cR,fv,fK,Int.ofNat_inj]<;>grind)
       ·refine z8 Z Z c9<|aq jp Z Zz Z Z<|z8 Z Z c9<|aE Y5 Z<|z8 Z Z c9<|zi (fk _) Z<|al Z c9 Z<|ad Z<|z7<|zf<|zh (x:=.bool _) Z ?_
        exact jb (by simp_all[cR,fv,fK,Int.ofNat_inj]<;>grind)
    ·refine z6 Z Z c4<|z6 Z Z c4<|z6 Z Z c4<|z6 Z Z c4<|z6 Z Z c4<|al Z c4 Z<|ai Z<|z8 Z Z Z<|ai Z<|z8 Z Z Z<|aD Z<|z8 Z Z Z<|ai Z<|zk (s:=47) Z (fun c10=>?_) (fun c10=>?_)
     ·refine z8 Z Z c10<|aq jp Z je Z Z<|z8 Z Z c10<|aE jj Z<|z8 Z Z c10<|za (yn Z Z)<|z8 Z Z Z<|ap Z c10 Z<|al Z Z Z<|ad Z<|z7<|zr Z (fun c11=>?_) (fun c11=>?_)
      ·refine ah<|ad Z<|z7<|zf<|zh (x:=.bool _) Z ?_
       exact jb (by simp_all[cR,fv,fK,Int.ofNat_inj]<;>grind)
      ·refine ze<|ah<|aq jp Z Z8 Z Z<|aE Y9 Z<|ax Z Z<|ai Z<|zk (s:=56) Z (fun c12=>?_) (fun c12=>?_)
       ·refine z6 Z Z c12<|z6 Z Z c12<|z6 Z Z c12<|ap Z c12 Z<|ad Z<|z7<|zf<|zh (x:=.bool _) Z ?_
        exact jb (by simp_all[cR,fv,fK,Int.ofNat_inj]<;>grind)
       ·refine z8 Z Z c12<|aq jp Z Zz Z Z<|z8 Z Z c12<|aE Y5 Z<|z8 Z Z c12<|zi (fk _) Z<|al Z c12 Z<|ad Z<|z7<|zf<|zh (x:=.bool _) Z ?_
        exact jb (by simp_all[cR,fv,fK,Int.ofNat_inj]<;>grind)
     ·refine z6 Z Z c10<|z6 Z Z c10<|z6 Z Z c10<|z8 Z Z Z<|al Z c10 Z<|al Z Z Z<|ad Z<|z7<|yp Z Z<|ze<|ah<|aq jp Z Z8 Z Z<|aE Y9 Z<|ax Z Z<|ai Z<|zk (s:=56) Z (fun c13=>?_) (fun c13=>?_)
      ·refine z6 Z Z c13<|z6 Z Z c13<|z6 Z Z c13<|ap Z c13 Z<|ad Z<|z7<|zf<|zh (x:=.bool _) Z ?_
       exact jb (by simp_all[cR,fv,fK,Int.ofNat_inj]<;>grind)
      ·refine z8 Z Z c13<|aq jp Z Zz Z Z<|z8 Z Z c13<|aE Y5 Z<|z8 Z Z c13<|zi (fk _) Z<|al Z c13 Z<|ad Z<|z7<|zf<|zh (x:=.bool _) Z ?_
       exact jb (by simp_all[cR,fv,fK,Int.ofNat_inj]<;>grind)
theorem Cl (f:ab) (t:cC):aZ prog E 111 [.agg (bQ f),.agg (nO t)] (.bool (bj f t)):=by
 refine zo func111 Z (by decide) Z<|ah<|yb (cs:=_) Z Z Z<|yb (cs:=_) Z Z Z<|ad Z<|z7<|zb<|ah<|aq jg Z Zn Z Z<|aE Zs Z<|z7<|zg<|ah<|ax Z Z<|ad Z<|z7<|zr Z (fun c14=>?_) (fun c14=>?_)
 ·refine ah<|ac js jk Z Z<|aq jg Z Z2 Z Z<|za (yw (j:=0) ju je Z Z Z (by decide) Z)<|aE jj Z<|zi (nP _ _) Z<|ai Z<|zk (s:=14) Z (fun c15=>?_) (fun c15=>?_)
  ·refine z8 Z Z c15<|aq jg Z Z2 Z Z<|z8 Z Z c15<|za (yw (j:=1) ju je Z Z Z (by decide) Z)<|z8 Z Z c15<|aE jj Z<|z8 Z Z c15<|ax Z Z<|ap Z c15 Z<|ai Z<|zk (s:=20) Z (fun c16=>?_) (fun c16=>?_)
   ·refine z8 Z Z c16<|aq jg Z je Z Z<|z8 Z Z c16<|aE jj Z<|z8 Z Z c16<|ax Z Z<|ap Z c16 Z<|ad Z<|z7<|zf<|zh (x:=.bool _) Z ?_
    exact jb (by simp_all[bj]<;>grind)
   ·refine z6 Z Z c16<|z6 Z Z c16<|z6 Z Z c16<|al Z c16 Z<|ad Z<|z7<|zf<|zh (x:=.bool _) Z ?_
    exact jb (by simp_all[bj]<;>grind)
  ·refine z6 Z Z c15<|z6 Z Z c15<|z6 Z Z c15<|z6 Z Z c15<|al Z c15 Z<|ai Z<|z6 Z Z Z<|z6 Z Z Z<|z6 Z Z Z<|al Z Z Z<|ad Z<|z7<|zf<|zh (x:=.bool _) Z ?_
   exact jb (by simp_all[bj]<;>grind)
 ·refine ah<|ax Z Z<|ad Z<|z7<|zr Z (fun c17=>?_) (fun c17=>?_)
  ·refine ah<|ac js jk Z Z<|aq jg Z je Z Z<|aE jj Z<|zi (jT _ _) Z<|ai Z<|zk (s:=31) Z (fun c18=>?_) (fun c18=>?_)
   ·refine z8 Z Z c18<|ac js jk Z Z<|z8 Z Z c18<|aq jg Z Z2 Z Z<|z8 Z Z c18<|za (yw (j:=0) ju je Z Z Z (by decide) Z)<|z8 Z Z c18<|aE jj Z<|z8 Z Z c18<|zi (nP _ _) Z<|ap Z c18 Z<|ai Z<|zk (s:=38) Z (fun c19=>?_) (fun c19=>?_)
    ·refine z8 Z Z c19<|ac js jk Z Z<|z8 Z Z c19<|aq jg Z Z2 Z Z<|z8 Z Z c19<|za (yw (j:=1) ju je Z Z Z (by decide) Z)<|z8 Z Z c19<|aE jj Z<|z8 Z Z c19<|zi (nP _ _) Z<|ap Z c19 Z<|ad Z<|z7<|zf<|zh (x:=.bool _) Z ?_
     exact jb (by simp_all[bj]<;>grind)
    ·refine z6 Z Z c19<|z6 Z Z c19<|z6 Z Z c19<|z6 Z Z c19<|z6 Z Z c19<|al Z c19 Z<|ad Z<|z7<|zf<|zh (x:=.bool _) Z ?_
     exact jb (by simp_all[bj]<;>grind)
   ·refine z6 Z Z c18<|z6 Z Z c18<|z6 Z Z c18<|z6 Z Z c18<|z6 Z Z c18<|al Z c18 Z<|ai Z<|z6 Z Z Z<|z6 Z Z Z<|z6 Z Z Z<|z6 Z Z Z<|z6 Z Z Z<|al Z Z Z<|ad Z<|z7<|zf<|zh (x:=.bool _) Z ?_
    exact jb (by simp_all[bj]<;>grind)
  ·refine ah<|ax Z Z<|ad Z<|z7<|zr Z (fun c20=>?_) (fun c20=>?_)
   ·refine ah<|ac js jk Z Z<|aq jg Z je Z Z<|aE jj Z<|zi (jT _ _) Z<|ai Z<|zk (s:=51) Z (fun c21=>?_) (fun c21=>?_)
    ·refine z8 Z Z c21<|aq jg Z Z2 Z Z<|z8 Z Z c21<|ac isAgg56 Z2 Z Z<|z8 Z Z c21<|za (Gv.buildA (cps:=[]) (rs:=[.int .i64 0,.int .i64 0]) Gc Z Z Z)<|z8 Z Z c21<|za (Gv.eqlP (xs:=[.int _ _,.int _ _]) (ys:=[.int _ _,.int _ _]) (by kernel_rfl) Z Z (fun w=>tN _ _ _ _ w))<|ap Z c21 Z<|ad Z<|z7<|zf<|zh (x:=.bool _) Z ?_
     exact jb (by simp_all[bj]<;>grind)
    ·refine z6 Z Z c21<|z6 Z Z c21<|z6 Z Z c21<|z6 Z Z c21<|al Z c21 Z<|ad Z<|z7<|zf<|zh (x:=.bool _) Z ?_
     exact jb (by simp_all[bj]<;>grind)
   ·refine ze<|ah<|ad Z<|z7<|zf<|zh (x:=.bool _) Z ?_
    exact jb (by simp_all[bj]<;>grind)
def qK (s:ByteArray):List AV:=[.str s]
end
section
open Go.Proofs.Tryz
open Go.Proofs Go.Lib Go.Shelf Go.RowKit
theorem e8:iJ prog 97 #[(0,1),(1,1),(2,1)] [.str ⟨#[]⟩,.str ⟨#[]⟩,.str ⟨#[]⟩]:=⟨_,_,Zp,zeroValue97,fun w=>by kernel_rfl,rfl⟩
theorem Gd:dw prog 98 97 27 3 [.str ⟨#[]⟩,.str ⟨#[]⟩,.str ⟨#[]⟩,.str ⟨#[]⟩,.str ⟨#[]⟩,.str ⟨#[]⟩,.str ⟨#[]⟩,.str ⟨#[]⟩,.str ⟨#[]⟩,.str ⟨#[]⟩,.str ⟨#[]⟩,.str ⟨#[]⟩,.str ⟨#[]⟩,.str ⟨#[]⟩,.str ⟨#[]⟩,.str ⟨#[]⟩,.str ⟨#[]⟩,.str ⟨#[]⟩,.str ⟨#[]⟩,.str ⟨#[]⟩,.str ⟨#[]⟩,.str ⟨#[]⟩,.str ⟨#[]⟩,.str ⟨#[]⟩,.str ⟨#[]⟩,.str ⟨#[]⟩,.str ⟨#[]⟩,.str ⟨#[]⟩,.str ⟨#[]⟩,.str ⟨#[]⟩,.str ⟨#[]⟩,.str ⟨#[]⟩,.str ⟨#[]⟩,.str ⟨#[]⟩,.str ⟨#[]⟩,.str ⟨#[]⟩,.str ⟨#[]⟩,.str ⟨#[]⟩,.str ⟨#[]⟩,.str ⟨#[]⟩,.str ⟨#[]⟩,.str ⟨#[]⟩,.str ⟨#[]⟩,.str ⟨#[]⟩,.str ⟨#[]⟩,.str ⟨#[]⟩,.str ⟨#[]⟩,.str ⟨#[]⟩,.str ⟨#[]⟩,.str ⟨#[]⟩,.str ⟨#[]⟩,.str ⟨#[]⟩,.str ⟨#[]⟩,.str ⟨#[]⟩,.str ⟨#[]⟩,.str ⟨#[]⟩,.str ⟨#[]⟩,.str ⟨#[]⟩,.str ⟨#[]⟩,.str ⟨#[]⟩,.str ⟨#[]⟩,.str ⟨#[]⟩,.str ⟨#[]⟩,.str ⟨#[]⟩,.str ⟨#[]⟩,.str ⟨#[]⟩,.str ⟨#[]⟩,.str ⟨#[]⟩,.str ⟨#[]⟩,.str ⟨#[]⟩,.str ⟨#[]⟩,.str ⟨#[]⟩,.str ⟨#[]⟩,.str ⟨#[]⟩,.str ⟨#[]⟩,.str ⟨#[]⟩,.str ⟨#[]⟩,.str ⟨#[]⟩,.str ⟨#[]⟩,.str ⟨#[]⟩,.str ⟨#[]⟩]:=⟨_,Ym,Y8,zeroValue97,by decide,by decide,by kernel_rfl⟩
set_option maxRecDepth 20000
variable {E:World}
def aj (E:World):Prop:=Lib.TabIs prog E "unicode.properties" .u8 Lib.propertiesTab∧RVar 1 letterT E
theorem jX (c:Int) (h1:-2147483648≤c) (h2:c≤2147483647) (hL:aj E):aZ prog E 91 [.int .i32 c] (.bool (isLetterU c)):=
 aZ.ofBelow (vs:=[.int .i32 c]) (r:=.bool (isLetterU c)) func91 rfl (by decide) rfl fun w hw=>Tryz.unicode_IsLetter_all c w h1 h2 (TabIs_below (g:=0) (by kernel_rfl) hL.1 hw) (RVar_below hL.2 hw)
theorem dH (s:ByteArray) (p:Nat):1≤(Utf8.decode s p).2∧(Utf8.decode s p).1≤2097151:=by
 have h256:∀k,(s.get! k).toNat<256:=fun k=>(s.get! k).toNat_lt
 unfold Utf8.decode
 dsimp only
 constructor
 ·repeat' split
  all_goals simp
 ·have h0:=h256 (p+0)
  have h1:=h256 (p+1)
  have h2:=h256 (p+2)
  have h3:=h256 (p+3)
  repeat' split
  all_goals (simp only[Utf8.runeError];omega)
def cS (c:Int) (n:Nat):Bool:=(isLetterU c&&!decide (c=65533))||(!decide ((n:Int)=0)&&((decide (48≤c)&&decide (c≤57))||decide (c=46)||decide (c=95)))
def dO (s:ByteArray) (p n:Nat):Bool:=
 if h:p<s.size then (if cS (Utf8.decode s p).1 n then dO s (p+(Utf8.decode s p).2) (n+1) else false) else decide ((1:Int)≤n)&&decide ((n:Int)≤16)
termination_by s.size - p
decreasing_by have:=(dH s p).1;omega
def lN (s:ByteArray):Bool:=dO s 0 0
theorem rx (s:ByteArray) (hs:s.size≤140737488355328) (hL:aj E):aZ prog E 70 [.str s] (.bool (lN s)):=by
 refine zo func70 Z (by decide) Z<|ah<|ad Z<|z7<|ah<|aw Z<|z7<|zb<|ah<|za (yh (v:=.str _) Z)<|ao.rangeT Zg Z<|fun i8=>z7<|zg<|y7 (γ:=Nat × Nat) [8] (fun g=>[(3,.int .i64 g.2)]) (fun g=>[(i8,.iter s g.1)]) (fun g=>dO s g.1 g.2=lN s∧g.2≤g.1∧g.2≤s.size) (fun g=>s.size - g.1) (0,0) aW aN (⟨Z,Nat.le_refl _,qt _⟩) ?_
 rintro ⟨p,n⟩ ⟨hp,hn,hn2⟩
 try dsimp only at *
 by_cases hlt:p<s.size
 ·obtain ⟨hd1,hd2⟩:=dH s p
  have hstep:=hp
  rw[dO,dif_pos hlt] at hstep
  refine ah<|ao.nextT Z .head hlt<|za (Im Z Z)<|z7<|zb<|yt Z Z<|ze<|zg<|ah<|za (DT Z Z)<|aw Z<|z7<|ah<|aa Z<|zi (jX _ (by omega) (by omega) hL) Z<|ai Z<|zk (s:=14) Z (fun c1=>?_) (fun c1=>?_)
  ·refine z8 Z Z c1<|aa Z<|z8 Z Z c1<|za (yn Z Z)<|ap Z c1 Z<|ad Z<|z7<|zb<|ah<|ai Z<|aD Z<|ai Z<|zk (s:=20) Z (fun c2=>?_) (fun c2=>?_)
   ·refine z8 Z Z c2<|aa Z<|z8 Z Z c2<|ax Z Z<|z8 Z Z c2<|ai Z<|zk (s:=23) Z (fun c3=>?_) (fun c3=>?_)
    ·refine z6 Z Z c3<|z6 Z Z c3<|z6 Z Z c3<|zd Z Z<|zd Z Z<|z6 Z Z c3<|z6 Z Z c3<|z6 Z Z c3<|zd Z Z<|zd Z Z<|z6 Z Z c3<|z6 Z Z c3<|zd Z Z<|zd Z Z<|z6 Z Z c3<|z8 Z Z c2<|ap Z c3 Z<|ap Z c2 Z<|z7<|yt Z Z<|ah<|ad Z<|z7<|zf<|zh (x:=.bool _) Z ?_
     rw[if_neg (by simp_all[cS]<;>omega)] at hstep;exact jb hstep
    ·refine z8 Z Z c3<|aa Z<|z8 Z Z c3<|za (ql Z Z)<|z8 Z Z c3<|ai Z<|zk (s:=26) Z (fun c4=>?_) (fun c4=>?_)
     ·refine z8 Z Z c4<|aa Z<|z8 Z Z c4<|za (Gv.leq Z Z)<|z8 Z Z c3<|ap Z c4 Z<|z8 Z Z c3<|aD Z<|z8 Z Z c3<|ai Z<|zk (s:=31) Z (fun c5=>?_) (fun c5=>?_)
      ·refine z8 Z Z c5<|aa Z<|z8 Z Z c5<|za (yn Z Z)<|z8 Z Z c3<|ap Z c5 Z<|z8 Z Z c3<|ai Z<|zk (s:=35) Z (fun c6=>?_) (fun c6=>?_)
       ·refine z8 Z Z c6<|aa Z<|z8 Z Z c6<|za (yn Z Z)<|z8 Z Z c3<|ap Z c6 Z<|z8 Z Z c2<|al Z c3 Z<|ap Z c2 Z<|z7<|zr Z (fun c7=>?_) (fun c7=>?_)
        ·refine ah<|ad Z<|z7<|zf<|zh (x:=.bool _) Z ?_
         rw[if_neg (by simp_all[cS]<;>omega)] at hstep;exact jb hstep
        ·refine ze<|bi<|aa Z<|aC Z Z<|aw Z<|z7 ?_
         exact ⟨(p+(Utf8.decode s p).2,n+1),aW,aW,aN,⟨by rw[if_pos (by simp_all[cS]<;>omega)] at hstep;exact hstep,by dsimp only;omega,by dsimp only;omega⟩,by dsimp only;omega⟩
       ·refine z6 Z Z c6<|z6 Z Z c6<|z8 Z Z c3<|al Z c6 Z<|z8 Z Z c2<|al Z c3 Z<|ap Z c2 Z<|z7<|yp Z Z<|ze<|bi<|aa Z<|aC Z Z<|aw Z<|z7 ?_
        exact ⟨(p+(Utf8.decode s p).2,n+1),aW,aW,aN,⟨by rw[if_pos (by simp_all[cS]<;>omega)] at hstep;exact hstep,by dsimp only;omega,by dsimp only;omega⟩,by dsimp only;omega⟩
      ·refine z6 Z Z c5<|z6 Z Z c5<|z8 Z Z c3<|al Z c5 Z<|z8 Z Z c3<|ai Z<|z6 Z Z Z<|z6 Z Z Z<|z8 Z Z c3<|al Z Z Z<|z8 Z Z c2<|al Z c3 Z<|ap Z c2 Z<|z7<|yp Z Z<|ze<|bi<|aa Z<|aC Z Z<|aw Z<|z7 ?_
       exact ⟨(p+(Utf8.decode s p).2,n+1),aW,aW,aN,⟨by rw[if_pos (by simp_all[cS]<;>omega)] at hstep;exact hstep,by dsimp only;omega,by dsimp only;omega⟩,by dsimp only;omega⟩
     ·refine z6 Z Z c4<|z6 Z Z c4<|z8 Z Z c3<|al Z c4 Z<|z8 Z Z c3<|aD Z<|z8 Z Z c3<|ai Z<|z8 Z Z Z<|aa Z<|z8 Z Z Z<|za (yn Z Z)<|z8 Z Z c3<|ap Z Z Z<|z8 Z Z c3<|ai Z<|zk (s:=35) Z (fun c8=>?_) (fun c8=>?_)
      ·refine z8 Z Z c8<|aa Z<|z8 Z Z c8<|za (yn Z Z)<|z8 Z Z c3<|ap Z c8 Z<|z8 Z Z c2<|al Z c3 Z<|ap Z c2 Z<|z7<|zr Z (fun c9=>?_) (fun c9=>?_)
       ·refine ah<|ad Z<|z7<|zf<|zh (x:=.bool _) Z ?_
        rw[if_neg (by simp_all[cS]<;>omega)] at hstep;exact jb hstep
       ·refine ze<|bi<|aa Z<|aC Z Z<|aw Z<|z7 ?_
        exact ⟨(p+(Utf8.decode s p).2,n+1),aW,aW,aN,⟨by rw[if_pos (by simp_all[cS]<;>omega)] at hstep;exact hstep,by dsimp only;omega,by dsimp only;omega⟩,by dsimp only;omega⟩
      ·refine z6 Z Z c8<|z6 Z Z c8<|z8 Z Z c3<|al Z c8 Z<|z8 Z Z c2<|al Z c3 Z<|ap Z c2 Z<|z7<|yp Z Z<|ze<|bi<|aa Z<|aC Z Z<|aw Z<|z7 ?_
       exact ⟨(p+(Utf8.decode s p).2,n+1),aW,aW,aN,⟨by rw[if_pos (by simp_all[cS]<;>omega)] at hstep;exact hstep,by dsimp only;omega,by dsimp only;omega⟩,by dsimp only;omega⟩
   ·refine z6 Z Z c2<|z6 Z Z c2<|z6 Z Z c2<|zd Z Z<|zd Z Z<|zd Z Z<|zd Z Z<|zd Z Z<|zd Z Z<|zd Z Z<|zd Z Z<|zd Z Z<|zd Z Z<|zd Z Z<|zd Z Z<|zd Z Z<|zd Z Z<|zd Z Z<|z6 Z Z c2<|al Z c2 Z<|z7<|yp Z Z<|ze<|bi<|aa Z<|aC Z Z<|aw Z<|z7 ?_
    exact ⟨(p+(Utf8.decode s p).2,n+1),aW,aW,aN,⟨by rw[if_pos (by simp_all[cS]<;>omega)] at hstep;exact hstep,by dsimp only;omega,by dsimp only;omega⟩,by dsimp only;omega⟩
  ·refine z6 Z Z c1<|z6 Z Z c1<|al Z c1 Z<|ad Z<|z7<|zb<|ah<|ai Z<|aD Z<|ai Z<|z8 Z Z Z<|aa Z<|z8 Z Z Z<|ax Z Z<|z8 Z Z Z<|ai Z<|zk (s:=23) Z (fun c10=>?_) (fun c10=>?_)
   ·refine z6 Z Z c10<|z6 Z Z c10<|z6 Z Z c10<|zd Z Z<|zd Z Z<|z6 Z Z c10<|z6 Z Z c10<|z6 Z Z c10<|zd Z Z<|zd Z Z<|z6 Z Z c10<|z6 Z Z c10<|zd Z Z<|zd Z Z<|z6 Z Z c10<|z8 Z Z Z<|ap Z c10 Z<|ap Z Z Z<|z7<|yt Z Z<|ah<|ad Z<|z7<|zf<|zh (x:=.bool _) Z ?_
    rw[if_neg (by simp_all[cS]<;>omega)] at hstep;exact jb hstep
   ·refine z8 Z Z c10<|aa Z<|z8 Z Z c10<|za (ql Z Z)<|z8 Z Z c10<|ai Z<|zk (s:=26) Z (fun c11=>?_) (fun c11=>?_)
    ·refine z8 Z Z c11<|aa Z<|z8 Z Z c11<|za (Gv.leq Z Z)<|z8 Z Z c10<|ap Z c11 Z<|z8 Z Z c10<|aD Z<|z8 Z Z c10<|ai Z<|zk (s:=31) Z (fun c12=>?_) (fun c12=>?_)
     ·refine z8 Z Z c12<|aa Z<|z8 Z Z c12<|za (yn Z Z)<|z8 Z Z c10<|ap Z c12 Z<|z8 Z Z c10<|ai Z<|zk (s:=35) Z (fun c13=>?_) (fun c13=>?_)
      ·refine z8 Z Z c13<|aa Z<|z8 Z Z c13<|za (yn Z Z)<|z8 Z Z c10<|ap Z c13 Z<|z8 Z Z Z<|al Z c10 Z<|ap Z Z Z<|z7<|zr Z (fun c14=>?_) (fun c14=>?_)
       ·refine ah<|ad Z<|z7<|zf<|zh (x:=.bool _) Z ?_
        rw[if_neg (by simp_all[cS]<;>omega)] at hstep;exact jb hstep
       ·refine ze<|bi<|aa Z<|aC Z Z<|aw Z<|z7 ?_
        exact ⟨(p+(Utf8.decode s p).2,n+1),aW,aW,aN,⟨by rw[if_pos (by simp_all[cS]<;>omega)] at hstep;exact hstep,by dsimp only;omega,by dsimp only;omega⟩,by dsimp only;omega⟩
      ·refine z6 Z Z c13<|z6 Z Z c13<|z8 Z Z c10<|al Z c13 Z<|z8 Z Z Z<|al Z c10 Z<|ap Z Z Z<|z7<|yp Z Z<|ze<|bi<|aa Z<|aC Z Z<|aw Z<|z7 ?_
       exact ⟨(p+(Utf8.decode s p).2,n+1),aW,aW,aN,⟨by rw[if_pos (by simp_all[cS]<;>omega)] at hstep;exact hstep,by dsimp only;omega,by dsimp only;omega⟩,by dsimp only;omega⟩
     ·refine z6 Z Z c12<|z6 Z Z c12<|z8 Z Z c10<|al Z c12 Z<|z8 Z Z c10<|ai Z<|z6 Z Z Z<|z6 Z Z Z<|z8 Z Z c10<|al Z Z Z<|z8 Z Z Z<|al Z c10 Z<|ap Z Z Z<|z7<|yp Z Z<|ze<|bi<|aa Z<|aC Z Z<|aw Z<|z7 ?_
      exact ⟨(p+(Utf8.decode s p).2,n+1),aW,aW,aN,⟨by rw[if_pos (by simp_all[cS]<;>omega)] at hstep;exact hstep,by dsimp only;omega,by dsimp only;omega⟩,by dsimp only;omega⟩
    ·refine z6 Z Z c11<|z6 Z Z c11<|z8 Z Z c10<|al Z c11 Z<|z8 Z Z c10<|aD Z<|z8 Z Z c10<|ai Z<|z8 Z Z Z<|aa Z<|z8 Z Z Z<|za (yn Z Z)<|z8 Z Z c10<|ap Z Z Z<|z8 Z Z c10<|ai Z<|zk (s:=35) Z (fun c15=>?_) (fun c15=>?_)
     ·refine z8 Z Z c15<|aa Z<|z8 Z Z c15<|za (yn Z Z)<|z8 Z Z c10<|ap Z c15 Z<|z8 Z Z Z<|al Z c10 Z<|ap Z Z Z<|z7<|zr Z (fun c16=>?_) (fun c16=>?_)
      ·refine ah<|ad Z<|z7<|zf<|zh (x:=.bool _) Z ?_
       rw[if_neg (by simp_all[cS]<;>omega)] at hstep;exact jb hstep
      ·refine ze<|bi<|aa Z<|aC Z Z<|aw Z<|z7 ?_
       exact ⟨(p+(Utf8.decode s p).2,n+1),aW,aW,aN,⟨by rw[if_pos (by simp_all[cS]<;>omega)] at hstep;exact hstep,by dsimp only;omega,by dsimp only;omega⟩,by dsimp only;omega⟩
     ·refine z6 Z Z c15<|z6 Z Z c15<|z8 Z Z c10<|al Z c15 Z<|z8 Z Z Z<|al Z c10 Z<|ap Z Z Z<|z7<|yp Z Z<|ze<|bi<|aa Z<|aC Z Z<|aw Z<|z7 ?_
      exact ⟨(p+(Utf8.decode s p).2,n+1),aW,aW,aN,⟨by rw[if_pos (by simp_all[cS]<;>omega)] at hstep;exact hstep,by dsimp only;omega,by dsimp only;omega⟩,by dsimp only;omega⟩
 ·rw[dO,dif_neg hlt] at hp
  refine ah<|ao.nextTover Z .head hlt<|za (Im Z Z)<|z7<|zb<|yp Z Z<|zz<|ah<|aa Z<|za (ql Z Z)<|ai Z<|zk (s:=45) Z (fun c17=>?_) (fun c17=>?_)
  ·refine z8 Z Z c17<|aa Z<|z8 Z Z c17<|za (Gv.leq Z Z)<|ap Z c17 Z<|ad Z<|z7<|zf<|zh (x:=.bool _) Z ?_
   rw[←hp];exact jb (by simp_all<;>(intros;omega))
  ·refine z6 Z Z c17<|z6 Z Z c17<|al Z c17 Z<|ad Z<|z7<|zf<|zh (x:=.bool _) Z ?_
   rw[←hp];exact jb (by simp_all<;>(intros;omega))
theorem ig:aZ prog E 48 [] (.fro 3 (fI.map qF)):=by
 refine zo func48 Z (by decide) Z<|ah<|za (rv Z)<|z7<|ah<|za (ya (cps:=[(0,[_]),(1,[_]),(2,[_])]) (rs:=[_,_,_]) e8 Z Z Z)<|za (ya (cps:=[(0,[_]),(1,[_]),(2,[_])]) (rs:=[_,_,_]) e8 Z Z Z)<|za (ya (cps:=[(0,[_]),(1,[_]),(2,[_])]) (rs:=[_,_,_]) e8 Z Z Z)<|za (ya (cps:=[(0,[_]),(1,[_]),(2,[_])]) (rs:=[_,_,_]) e8 Z Z Z)<|za (ya (cps:=[(0,[_]),(1,[_]),(2,[_])]) (rs:=[_,_,_]) e8 Z Z Z)<|za (ya (cps:=[(0,[_]),(1,[_]),(2,[_])]) (rs:=[_,_,_]) e8 Z Z Z)<|za (ya (cps:=[(0,[_]),(1,[_]),(2,[_])]) (rs:=[_,_,_]) e8 Z Z Z)<|za (ya (cps:=[(0,[_]),(1,[_]),(2,[_])]) (rs:=[_,_,_]) e8 Z Z Z)<|za (ya (cps:=[(0,[_]),(1,[_]),(2,[_])]) (rs:=[_,_,_]) e8 Z Z Z)<|za (ya (cps:=[(0,[_]),(1,[_]),(2,[_])]) (rs:=[_,_,_]) e8 Z Z Z)<|za (ya (cps:=[(0,[_]),(1,[_]),(2,[_])]) (rs:=[_,_,_]) e8 Z Z Z)<|za (ya (cps:=[(0,[_]),(1,[_]),(2,[_])]) (rs:=[_,_,_]) e8 Z Z Z)<|za (ya (cps:=[(0,[_]),(1,[_]),(2,[_])]) (rs:=[_,_,_]) e8 Z Z Z)<|za (ya (cps:=[(0,[_]),(1,[_]),(2,[_])]) (rs:=[_,_,_]) e8 Z Z Z)<|za (ya (cps:=[(0,[_]),(1,[_]),(2,[_])]) (rs:=[_,_,_]) e8 Z Z Z)<|za (ya (cps:=[(0,[_]),(1,[_]),(2,[_])]) (rs:=[_,_,_]) e8 Z Z Z)<|za (ya (cps:=[(0,[_]),(1,[_]),(2,[_])]) (rs:=[_,_,_]) e8 Z Z Z)<|za (ya (cps:=[(0,[_]),(1,[_]),(2,[_])]) (rs:=[_,_,_]) e8 Z Z Z)<|za (ya (cps:=[(0,[_]),(1,[_]),(2,[_])]) (rs:=[_,_,_]) e8 Z Z Z)<|za (ya (cps:=[(0,[_]),(1,[_]),(2,[_])]) (rs:=[_,_,_]) e8 Z Z Z)<|za (ya (cps:=[(0,[_]),(1,[_]),(2,[_])]) (rs:=[_,_,_]) e8 Z Z Z)<|za (ya (cps:=[(0,[_]),(1,[_]),(2,[_])]) (rs:=[_,_,_]) e8 Z Z Z)<|za (ya (cps:=[(0,[_]),(1,[_]),(2,[_])]) (rs:=[_,_,_]) e8 Z Z Z)<|za (ya (cps:=[(0,[_]),(1,[_]),(2,[_])]) (rs:=[_,_,_]) e8 Z Z Z)<|za (ya (cps:=[(0,[_]),(1,[_]),(2,[_])]) (rs:=[_,_,_]) e8 Z Z Z)<|za (ya (cps:=[(0,[_]),(1,[_]),(2,[_])]) (rs:=[_,_,_]) e8 Z Z Z)<|za (ya (cps:=[(0,[_]),(1,[_]),(2,[_])]) (rs:=[_,_,_]) e8 Z Z Z)<|yf (rows:=[[_,_,_],[_,_,_],[_,_,_],[_,_,_],[_,_,_],[_,_,_],[_,_,_],[_,_,_],[_,_,_],[_,_,_],[_,_,_],[_,_,_],[_,_,_],[_,_,_],[_,_,_],[_,_,_],[_,_,_],[_,_,_],[_,_,_],[_,_,_],[_,_,_],[_,_,_],[_,_,_],[_,_,_],[_,_,_],[_,_,_],[_,_,_]]) Gd Z Z Z Z Z<|za (va Z)<|z7<|zf<|zh (x:=.fro _ _) Z ?_
 rfl
theorem fp (k n:Int):aZ prog E 71 [.int .i64 k,.int .i64 n] (.bool (decide (0≤k)&&decide (k<n))):=by
 refine zo func71 Z (by decide) Z<|ah<|ad Z<|z7<|ah<|aa Z<|za (ql Z Z)<|ai Z<|zk (s:=7) Z (fun c18=>?_) (fun c18=>?_)
 ·refine z8 Z Z c18<|aa Z<|z8 Z Z c18<|aa Z<|z8 Z Z c18<|ay Z Z<|ap Z c18 Z<|ad Z<|z7<|zf<|zh (x:=.bool _) Z ?_
  exact jb (by simp_all<;>omega)
 ·refine z6 Z Z c18<|z6 Z Z c18<|z6 Z Z c18<|al Z c18 Z<|ad Z<|z7<|zf<|zh (x:=.bool _) Z ?_
  exact jb (by simp_all<;>omega)
def Ka (l:List UInt8):ByteArray:=⟨l.toArray⟩
end
end Go.Proofs.YtjpnhkmfhlnpcaaGreatDoor
