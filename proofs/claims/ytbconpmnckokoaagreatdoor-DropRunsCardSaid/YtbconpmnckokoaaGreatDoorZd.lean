/- Contracts whose answers are one's own, or known henceforth. No conditions. -/
import Derived.Test.YtbconpmnckokoaaGreatDoorZc
set_option linter.unusedVariables false
set_option linter.unusedSimpArgs false
set_option linter.unusedSectionVars false
namespace Go.Proofs.YtbconpmnckokoaaGreatDoor
section
open Go.Proofs.Tryz
open Go.Proofs Go.Lib Go.Shelf Go.RowKit
set_option maxRecDepth 20000
variable {E:World}
def l5 (f:ai) (p:cV):Prop:=bn f p.dst=true∧p.args.length=p.from_.length∧1≤p.args.length∧p.args.all (bn f)=true∧p.from_.all (dk f)=true
def fI (x:aD):Bool:=decide ((bm x.op).1=⟨#[99,111,110,115,116]⟩)||decide ((bm x.op).1=⟨#[112,105]⟩)
def iD (f:ai) (x:aD):Bool:=!decide ((x.args.length:Int)=((bm x.op).2.1.size:Int))||(!(decide ((bm x.op).2.2=⟨#[]⟩) == decide (x.dst=-1))||((!decide (x.dst=-1)&&!bn f x.dst)||(!decide (x.num=0)&&!fI x)))
def kQ (f:ai) (x:aD):Prop:=0≤x.op∧x.op≤26∧iD f x=false∧x.args.all (bn f)=true
def uU (f:ai) (b:aI):Prop:=(∀p∈b.phis,l5 f p)∧(∀x∈b.insts,kQ f x)∧bh f b.term=true
def dD (l:List aI):Nat:=(l.map fun b=>b.phis.length+b.insts.length).sum
def jK (f:ai):Bool:=decide ((512:Int)<f.vars.length)||(decide ((8:Int)<f.params.length)||(decide ((f.vars.length:Int)<f.params.length)||(decide ((f.blocks.length:Int)<1)||decide ((64:Int)<f.blocks.length))))
def wg (f:ai) (i:Nat) (v:l3):Prop:=gX v.name=true∧0≤v.ty∧v.ty≤2∧∀s∈(f.vars.take i).map (·.name),s≠v.name
def wh (f:ai) (i:Nat) (b:aI):Prop:=gX b.name=true∧∀s∈(f.blocks.take i).map (·.name),s≠b.name
def b5 (f:ai):Prop:=jK f=false∧(∀i (h:i<f.params.length),f.params[i]=(i:Int))∧(∀i (h:i<f.vars.length),wg f i f.vars[i])∧(∀i (h:i<f.blocks.length),wh f i f.blocks[i])∧dD f.blocks≤1024∧∀b∈f.blocks,uU f b
instance (f:ai) (p:cV):Decidable (l5 f p):=by unfold l5;infer_instance
instance (f:ai) (x:aD):Decidable (kQ f x):=by unfold kQ;infer_instance
instance (f:ai) (b:aI):Decidable (uU f b):=by unfold uU;infer_instance
instance (f:ai) (i:Nat) (v:l3):Decidable (wg f i v):=by unfold wg;infer_instance
instance (f:ai) (i:Nat) (b:aI):Decidable (wh f i b):=by unfold wh;infer_instance
instance (f:ai):Decidable (b5 f):=by unfold b5;infer_instance
theorem o8 (l:List aI) (k:Nat):dD (l.take k)≤dD l:=by
 have:dD l=dD (l.take k)+dD (l.drop k):=by
  unfold dD;rw[←List.sum_append,←List.map_append,List.take_append_drop]
 omega
theorem kR (l:List aI) (k:Nat) (h:k<l.length):dD (l.take (k+1))=dD (l.take k)+(l[k].phis.length+l[k].insts.length):=by
 unfold dD;rw[qp h,List.map_append,List.sum_append];simp only[List.map_cons,List.map_nil,List.sum_cons,List.sum_nil,Nat.add_zero]
theorem oc {α:Type} {g:α→ByteArray} {l:List α} {k:Nat} {s:ByteArray} (h:k<l.length) (h1:∀x∈(l.take k).map g,x≠s) (h2:¬g l[k]=s):∀x∈(l.take (k+1)).map g,x≠s:=by
 rw[qp h,List.map_append]
 intro x hx
 rcases List.mem_append.1 hx with hx|hx
 ·exact h1 x hx
 ·simp only[List.map_cons,List.map_nil,List.mem_singleton] at hx;rw[hx];exact h2
theorem qK {α:Type} {g:α→ByteArray} {l:List α} {k i:Nat} {s:ByteArray} (h:k<l.length) (hk:k<i) (h1:∀x∈(l.take i).map g,x≠s):¬g l[k]=s:=by
 refine h1 _ (List.mem_map.2 ⟨l[k],?_,Z⟩)
 refine List.mem_iff_getElem?.2 ⟨k,?_⟩
 rw[List.getElem?_take,if_pos hk,qo h]
theorem cA {α:Type} {p:α→Bool} {l:List α} {k:Nat} (h:k<l.length) (h1:(l.take k).all p=true) (h2:p l[k]=true):(l.take (k+1)).all p=true:=by
 rw[qp h,List.all_append,h1];simp[h2]
theorem ef {α:Type} {p:α→Bool} {l:List α} {k:Nat} (h:k<l.length) (h2:p l[k]=false):¬l.all p=true:=fun h3=>by
 have:=List.all_eq_true.1 h3 _ (qs h);rw[h2] at this;cases this
theorem f7 {α:Type} {l:List α} {k:Nat} (h:l.length≤k):l.take k=l:=List.take_of_length_le h
theorem cX {α:Type} {p:α→Prop} {l:List α} {k:Nat} (h:k<l.length) (h1:∀x∈l.take k,p x) (h2:p l[k]):∀x∈l.take (k+1),p x:=by
 rw[qp h]
 intro x hx
 rcases List.mem_append.1 hx with hx|hx
 ·exact h1 x hx
 ·rw[List.mem_singleton.1 hx];exact h2
def gY (f:ai):Prop:=(∀v∈f.vars,v.name.size≤140737488355328)∧∀b∈f.blocks,b.name.size≤140737488355328
set_option maxHeartbeats 8000000 in
theorem kS (f:ai) (hf:mX f) (hn:gY f) (hL:ae E):aV prog E 40 [.agg (bW f)] (.bool (decide (b5 f))):=by
 obtain ⟨hf1,hf2,hf3,hf4⟩:=hf
 have hl1:=hf1.lt
 have hl2:=hf2.lt
 have hl3:=hf3.lt
 refine zr func40 Z (by decide) Z<|ao<|yf (cs:=_) Z Z Z<|ab Z<|z6<|ao<|aw jj Z Y4 Z Z<|aT Yb Z<|aj Z5 Z<|ax Z<|z6<|zb<|zb<|yp (γ:=Unit) [1,3] (fun u=>[(53,.bool (jK f))]) (fun u=>[]) (fun u=>True) ?_ (fun _ _ h=>h) ?_
 ·refine bj<|aa Z<|z8 (q3 Z Z)<|ah Z<|zm (s:=29) Z (fun c1=>?_) (fun c1=>?_)
  ·refine z2 Z Z c1<|z2 Z Z c1<|z2 Z Z c1<|z2 Z Z c1<|ap Z c1 Z<|ah Z<|z2 Z Z Z<|z2 Z Z Z<|z2 Z Z Z<|z2 Z Z Z<|z2 Z Z Z<|ap Z Z Z<|ah Z<|z2 Z Z Z<|z2 Z Z Z<|z2 Z Z Z<|z2 Z Z Z<|ap Z Z Z<|ah Z<|z2 Z Z Z<|z2 Z Z Z<|z2 Z Z Z<|z2 Z Z Z<|ap Z Z Z<|z6 ?_
   exact ⟨(),dX,⟨jb (by simp_all[jK]<;>grind),trivial⟩,aS,trivial⟩
  ·refine z7 Z Z c1<|aw jj Z jn Z Z<|z7 Z Z c1<|aT js Z<|z7 Z Z c1<|aj j6 Z<|z7 Z Z c1<|z8 (q3 Z Z)<|aq Z c1 Z<|ah Z<|zm (s:=35) Z (fun c2=>?_) (fun c2=>?_)
   ·refine z2 Z Z c2<|z2 Z Z c2<|z2 Z Z c2<|z2 Z Z c2<|z2 Z Z c2<|ap Z c2 Z<|ah Z<|z2 Z Z Z<|z2 Z Z Z<|z2 Z Z Z<|z2 Z Z Z<|ap Z Z Z<|ah Z<|z2 Z Z Z<|z2 Z Z Z<|z2 Z Z Z<|z2 Z Z Z<|ap Z Z Z<|z6 ?_
    exact ⟨(),dX,⟨jb (by simp_all[jK]<;>grind),trivial⟩,aS,trivial⟩
   ·refine z7 Z Z c2<|aw jj Z jn Z Z<|z7 Z Z c2<|aT js Z<|z7 Z Z c2<|aj j6 Z<|z7 Z Z c2<|aa Z<|z7 Z Z c2<|z8 (q3 Z Z)<|aq Z c2 Z<|ah Z<|zm (s:=42) Z (fun c3=>?_) (fun c3=>?_)
    ·refine z2 Z Z c3<|z2 Z Z c3<|z2 Z Z c3<|z2 Z Z c3<|ap Z c3 Z<|ah Z<|z2 Z Z Z<|z2 Z Z Z<|z2 Z Z Z<|z2 Z Z Z<|ap Z Z Z<|z6 ?_
     exact ⟨(),dX,⟨jb (by simp_all[jK]<;>grind),trivial⟩,aS,trivial⟩
    ·refine z7 Z Z c3<|aw jj Z Z6 Z Z<|z7 Z Z c3<|aT Zk Z<|z7 Z Z c3<|aj jp Z<|z7 Z Z c3<|ay Z Z<|aq Z c3 Z<|ah Z<|zm (s:=48) Z (fun c4=>?_) (fun c4=>?_)
     ·refine z2 Z Z c4<|z2 Z Z c4<|z2 Z Z c4<|z2 Z Z c4<|ap Z c4 Z<|z6 ?_
      exact ⟨(),dX,⟨jb (by simp_all[jK]<;>grind),trivial⟩,aS,trivial⟩
     ·refine z7 Z Z c4<|aw jj Z Z6 Z Z<|z7 Z Z c4<|aT Zk Z<|z7 Z Z c4<|aj jp Z<|z7 Z Z c4<|z8 (q3 Z Z)<|aq Z c4 Z<|z6 ?_
      exact ⟨(),dX,⟨jb (by simp_all[jK]<;>grind),trivial⟩,aS,trivial⟩
 ·rintro _ _
  refine zw Z (fun c1=>?_) (fun c1=>?_)
  ·refine ao<|ab Z<|z6<|ze<|zi (x:=.bool _) Z ?_
   rw[qy (fun h=>by rw[h.1] at c1;cases c1)]
  ·have hsz:f.vars.length≤512∧f.params.length≤8∧f.params.length≤f.vars.length∧1≤f.blocks.length∧f.blocks.length≤64:=by unfold jK at c1;simp at c1;omega
   refine zg<|zb<|ao<|aw jj Z jn Z Z<|aT js Z<|aj j6 Z<|aa Z<|z6<|zk<|yd (γ:=Nat) [1,3,55,56] (fun k=>[(57,.int .i64 k)]) (fun k=>[]) (fun k=>k≤f.params.length∧∀i (h:i<f.params.length),i<k→f.params[i]=(i:Int)) (fun k=>f.params.length - k) 0 aY aS (⟨qr _,fun i h hk=>by omega⟩) ?_
   rintro k ⟨hk,hpar⟩
   refine ao<|ay Z Z<|z6<|zb<|zp Z (fun ck=>?_) (fun ck=>?_)
   ·have hk2:k<f.params.length:=by omega
    refine zg<|zb<|zk<|ao<|aa Z<|z8 (q8 j6 j7 Z Z Z (qo (by omega)))<|aN je Z<|ax Z<|ax Z<|z6<|ao<|aa Z<|aa Z<|z8 (yl Z Z)<|z6<|zw Z (fun cp=>?_) (fun cp=>?_)
    ·refine ao<|ab Z<|z6<|ze<|zi (x:=.bool _) Z ?_
     rw[qy (fun h=>by have:=h.2.1 k hk2;simp[this] at cp)]
    ·refine zg<|bj<|aF Z Z<|aa Z<|z6 ?_
     exact ⟨k+1,f0,aY,aS,⟨hk2,fun i h hi=>by rcases Nat.lt_or_ge i k with h3|h3;exact hpar i h h3;obtain rfl:i=k:=(by omega);simpa using cp⟩,by omega⟩
   ·have hpars:∀i (h:i<f.params.length),f.params[i]=(i:Int):=fun i h=>hpar i h (by omega)
    refine yc<|zb<|ao<|aw jj Z Y4 Z Z<|aT Yb Z<|aj Z5 Z<|aa Z<|z6<|zk<|yd (γ:=Nat) [1,3,67,68] (fun k=>[(69,.int .i64 k)]) (fun k=>[]) (fun k=>k≤f.vars.length∧∀i (h:i<f.vars.length),i<k→wg f i f.vars[i]) (fun k=>f.vars.length - k) 0 aY aS (⟨qr _,fun i h hk=>by omega⟩) ?_
    rintro k ⟨hk,hvar⟩
    refine ao<|ay Z Z<|z6<|zb<|zp Z (fun ck=>?_) (fun ck=>?_)
    ·have hk2:k<f.vars.length:=by omega
     have hnk:f.vars[k].name.size≤140737488355328:=hn.1 _ (qs hk2)
     refine zg<|zb<|zk<|ao<|aa Z<|z8 (q8 Z5 Zx Z Z Z (qo (by omega)))<|ac isAgg73 Zx Z Z<|zz (cs:=[.str ⟨#[]⟩,.int .i64 0]) zeroValue73 Z Z<|fun i7=>ax Z<|zx Zx Z Z Z Z Z Z .head Z<|z6<|zb<|zb<|yp (γ:=Unit) [1,3,6,7,67,68,69] (fun u=>[(87,.bool (!gX f.vars[k].name||(decide (f.vars[k].ty<0)||decide (2<f.vars[k].ty))))]) (fun u=>[(i7,.cells 73 (bU f.vars[k]))]) (fun u=>True) ?_ (fun _ _ h=>h) ?_
     ·refine bj<|z8 (za Zi Z Zg (by decide) Z Z)<|z8 (zd (c:=.str _) Zn Z ⟨_,.head⟩ Z)<|zh (mw _ (by assumption) hL) Z<|aE Z<|ah Z<|zm (s:=78) Z (fun c5=>?_) (fun c5=>?_)
      ·refine z2 Z Z c5<|z2 Z Z c5<|z2 Z Z c5<|ap Z c5 Z<|ah Z<|z2 Z Z Z<|z2 Z Z Z<|z2 Z Z Z<|ap Z Z Z<|z6 ?_
       exact ⟨(),jI,⟨jb (by simp_all<;>grind),trivial⟩,aS,trivial⟩
      ·refine z7 Z Z c5<|z8 (za Zi Z sizeOf71 (by decide) Z Z)<|z7 Z Z c5<|z8 (zd (c:=.int _ _) isAgg71 Z ⟨_,.head⟩ Z)<|z7 Z Z c5<|ay Z Z<|aq Z c5 Z<|ah Z<|zm (s:=83) Z (fun c6=>?_) (fun c6=>?_)
       ·refine z2 Z Z c6<|z2 Z Z c6<|z2 Z Z c6<|ap Z c6 Z<|z6 ?_
        exact ⟨(),jI,⟨jb (by simp_all<;>grind),trivial⟩,aS,trivial⟩
       ·refine z7 Z Z c6<|z8 (za Zi Z sizeOf71 (by decide) Z Z)<|z7 Z Z c6<|z8 (zd (c:=.int _ _) isAgg71 Z ⟨_,.head⟩ Z)<|z7 Z Z c6<|z8 (q3 Z Z)<|aq Z c6 Z<|z6 ?_
        exact ⟨(),jI,⟨jb (by simp_all<;>grind),trivial⟩,aS,trivial⟩
     ·rintro _ _
      refine zw Z (fun cv=>?_) (fun cv=>?_)
      ·refine ao<|ab Z<|z6<|ze<|zi (x:=.bool _) Z ?_
       rw[qy (fun h=>by have:=h.2.2.1 k hk2;obtain ⟨h1,h2,h3,_⟩:=this;simp[h1] at cv;omega)]
      ·have hv3:gX f.vars[k].name=true∧0≤f.vars[k].ty∧f.vars[k].ty≤2:=by simp at cv;omega
       refine zg<|ao<|aa Z<|aa Z<|z6<|zk<|yd (γ:=Nat) [1,3,7,67,68,69,88] (fun j=>[(89,.int .i64 j)]) (fun j=>[(i7,.cells 73 (bU f.vars[k]))]) (fun j=>j≤k∧∀s∈(f.vars.take j).map (·.name),s≠f.vars[k].name) (fun j=>k - j) 0 aY aS (⟨qr _,by simp⟩) ?_
       rintro j ⟨hj,hno⟩
       refine ao<|ay Z Z<|z6<|zb<|zp Z (fun cj=>?_) (fun cj=>?_)
       ·have hj1:j<f.vars.length:=by omega
        refine zg<|zb<|zk<|ao<|aa Z<|ax Z<|z6<|zb<|zo (fun j=>false) (by kernel_rfl) Z (zq (.r (.rest _)))<|ad 0 Z (dV jj Z Y4 Z Z)<|ad 1 Z (jH Yb Z)<|ad 2 Z (cG Z)<|ad 3 Z (q8 Z5 Zx Z Z Z (qo (by omega)))<|ad 4 Z (dV Zi Z Zg Z Z)<|ad 5 Z (qi (c:=.str _) Zn Z)<|ad 6 Z (za Zi Z Zg (by decide) Z Z)<|ad 7 Z (zd (c:=.str _) Zn Z ⟨_,.head⟩ Z)<|ad 8 Z (yx Z Z)<|dU<|zp Z (fun ce=>?_) (fun ce=>?_)
        ·refine ao<|ab Z<|z6<|ze<|zi (x:=.bool _) Z ?_
         rw[qy (fun h=>by exact qK (g:=l3.name) hj1 (by omega) (h.2.2.1 k hk2).2.2.2 ce)]
        ·refine zg<|bj<|aF Z Z<|aa Z<|z6 ?_
         exact ⟨j+1,jI,aY,aS,⟨by omega,oc hj1 hno ce⟩,by omega⟩
       ·obtain rfl:j=k:=by omega
        refine yc<|bj<|aF Z Z<|aa Z<|z6 ?_
        exact ⟨j+1,f0,aY,⟨_,(.drop (.refl _)),rfl⟩,⟨hk2,fun i h hi=>by rcases Nat.lt_or_ge i j with h3|h3;exact hvar i h h3;obtain rfl:i=j:=(by omega);exact ⟨hv3.1,hv3.2.1,hv3.2.2,hno⟩⟩,by omega⟩
    ·have hvars:∀i (h:i<f.vars.length),wg f i f.vars[i]:=fun i h=>hvar i h (by omega)
     refine yc<|ao<|aw jj Z Z6 Z Z<|aT Zk Z<|aj jp Z<|ax Z<|z6<|ao<|ax Z<|z6<|zb<|ao<|aw jj Z Z6 Z Z<|aT Zk Z<|aj jp Z<|aa Z<|z6<|zk<|yd (γ:=Nat) [1,3,9,107,108] (fun g=>[(109,.int .i64 g),(10,.int .i64 (dD (f.blocks.take g)))]) (fun g=>[]) (fun g=>g≤f.blocks.length∧(∀i (h:i<f.blocks.length),i<g→wh f i f.blocks[i])∧dD (f.blocks.take g)≤1024∧∀b∈f.blocks.take g,uU f b) (fun g=>f.blocks.length - g) 0 dX aS (⟨qr _,fun i h hk=>by omega,by simp[dD],by simp⟩) ?_
     rintro k ⟨hk,hnam,hsum,hblk⟩
     refine ao<|ay Z Z<|z6<|zb<|zp Z (fun ck=>?_) (fun ck=>?_)
     ·have hk2:k<f.blocks.length:=by omega
      have hnk:f.blocks[k].name.size≤140737488355328:=hn.2 _ (qs hk2)
      obtain ⟨hb1,hb2,hb3,hb4⟩:=hf4 _ (qs hk2)
      have hl4:=hb1.lt
      have hl5:=hb2.lt
      refine zg<|zb<|zk<|ao<|aa Z<|z8 (q8 jp ju Z Z Z (qo (by omega)))<|ac Y0 ju Z Z<|zz (cs:=[.str ⟨#[]⟩,.raw (.slice none 0 0),.raw (.slice none 0 0),.int .i64 0,.int .i64 0,.int .i64 0,.int .i64 0]) Ze Z Z<|fun i12=>ax Z<|zx ju Z Z Z Z Z Z .head Z<|z6<|zb<|ao<|z8 (za j9 Z Zg (by decide) Z Z)<|z8 (zd (c:=.str _) Zn Z ⟨_,.head⟩ Z)<|zh (mw _ (by assumption) hL) Z<|aE Z<|z6<|zw Z (fun cv=>?_) (fun cv=>?_)
      ·refine ao<|ab Z<|z6<|ze<|zi (x:=.bool _) Z ?_
       rw[qy (fun h=>by have:=(h.2.2.2.1 k hk2).1;simp[this] at cv)]
      ·refine zg<|zb<|ao<|aa Z<|aa Z<|z6<|zk<|yd (γ:=Nat) [1,3,9,10,12,107,108,109,118] (fun j=>[(119,.int .i64 j)]) (fun j=>[(i12,.cells 62 (bc f.blocks[k]))]) (fun j=>j≤k∧∀s∈(f.blocks.take j).map (·.name),s≠f.blocks[k].name) (fun j=>k - j) 0 aY aS (⟨qr _,by simp⟩) ?_
       rintro j ⟨hj,hno⟩
       refine ao<|ay Z Z<|z6<|zb<|zp Z (fun cj=>?_) (fun cj=>?_)
       ·have hj1:j<f.blocks.length:=by omega
        refine zg<|zb<|zk<|ao<|aa Z<|ax Z<|z6<|zb<|zo (fun j=>false) (by kernel_rfl) Z (zq (.r (.rest _)))<|ad 0 Z (dV jj Z Z6 Z Z)<|ad 1 Z (jH Zk Z)<|ad 2 Z (cG Z)<|ad 3 Z (q8 jp ju Z Z Z (qo (by omega)))<|ad 4 Z (dV j9 Z Zg Z Z)<|ad 5 Z (qi (c:=.str _) Zn Z)<|ad 6 Z (za j9 Z Zg (by decide) Z Z)<|ad 7 Z (zd (c:=.str _) Zn Z ⟨_,.head⟩ Z)<|ad 8 Z (yx Z Z)<|dU<|zp Z (fun ce=>?_) (fun ce=>?_)
        ·refine ao<|ab Z<|z6<|ze<|zi (x:=.bool _) Z ?_
         rw[qy (fun h=>by exact qK (g:=aI.name) hj1 (by omega) (h.2.2.2.1 k hk2).2 ce)]
        ·refine zg<|bj<|aF Z Z<|aa Z<|z6 ?_
         exact ⟨j+1,⟨rfl,rfl,rfl,rfl,rfl,rfl,rfl,rfl,rfl,trivial⟩,aY,aS,⟨by omega,oc hj1 hno ce⟩,by omega⟩
       ·obtain rfl:j=k:=by omega
        have hs1:=kR f.blocks j hk2
        refine yc<|ao<|aa Z<|z8 (za j9 Z Zq (by decide) Z Z)<|z8 (zd (c:=.fro _ _) Y8 Z ⟨_,.head⟩ Z)<|aj jy Z<|aF Z Z<|z8 (za j9 Z jw (by decide) Z Z)<|z8 (zd (c:=.fro _ _) Zb Z ⟨_,.head⟩ Z)<|aj jm Z<|aF Z Z<|ax Z<|z6<|zb<|ao<|aa Z<|z8 (q3 Z Z)<|z6<|zp Z (fun cs=>?_) (fun cs=>?_)
        ·refine ao<|ab Z<|z6<|ze<|zi (x:=.bool _) Z ?_
         rw[qy (fun h=>by have:=h.2.2.2.2.1;have:=o8 f.blocks (j+1);omega)]
        ·refine zg<|zb<|ao<|z8 (za j9 Z Zq (by decide) Z Z)<|z8 (zd (c:=.fro _ _) Y8 Z ⟨_,.head⟩ Z)<|aj jy Z<|aa Z<|z6<|zk<|yd (γ:=Nat) [1,3,9,10,12,107,108,109,144,145] (fun p=>[(146,.int .i64 p)]) (fun p=>[(i12,.cells 62 (bc f.blocks[j]))]) (fun p=>p≤f.blocks[j].phis.length∧∀q∈f.blocks[j].phis.take p,l5 f q) (fun p=>f.blocks[j].phis.length - p) 0 aY aS (⟨qr _,by simp⟩) ?_
         rintro p ⟨hp,hphi⟩
         refine ao<|ay Z Z<|z6<|zb<|zp Z (fun cp=>?_) (fun cp=>?_)
         ·have hp2:p<f.blocks[j].phis.length:=by omega
          obtain ⟨hq1,hq2⟩:=hb3 _ (qs hp2)
          have hl6:=hq1.lt
          have hl7:=hq2.lt
          refine zg<|zb<|zk<|ao<|z8 (q8 jy Za Z Z Z (qo (by omega)))<|ac isAgg77 Za Z Z<|zz (cs:=[.int .i64 0,.raw (.slice none 0 0),.raw (.slice none 0 0)]) Zy Z Z<|fun i15=>zx Za Z Z Z Z Z Z .head Z<|z6<|zb<|zb<|yp (γ:=Unit) [1,3,9,10,12,15,107,108,109,144,145,146] (fun u=>[(169,.bool (!bn f f.blocks[j].phis[p].dst||(!decide ((f.blocks[j].phis[p].args.length:Int)=f.blocks[j].phis[p].from_.length)||decide ((f.blocks[j].phis[p].args.length:Int)<1))))]) (fun u=>[(i15,.cells 77 (bD f.blocks[j].phis[p])),(i12,.cells 62 (bc f.blocks[j]))]) (fun u=>True) ?_ (fun _ _ h=>h) ?_
          ·refine bj<|z8 (za jr Z j7 (by decide) Z Z)<|z8 (zd (c:=.int _ _) je Z ⟨_,.head⟩ Z)<|aa Z<|zh (dW _ _) Z<|aE Z<|ah Z<|zm (s:=155) Z (fun c7=>?_) (fun c7=>?_)
           ·refine z2 Z Z c7<|z2 Z Z c7<|z2 Z Z c7<|z2 Z Z c7<|z2 Z Z c7<|z2 Z Z c7<|z2 Z Z c7<|ap Z c7 Z<|ah Z<|z2 Z Z Z<|z2 Z Z Z<|z2 Z Z Z<|z2 Z Z Z<|ap Z Z Z<|z6 ?_
            exact ⟨(),gz,⟨jb (by simp_all[bn]<;>grind),trivial⟩,aS,trivial⟩
           ·refine z7 Z Z c7<|z8 (za jr Z jn (by decide) Z Z)<|z7 Z Z c7<|z8 (zd (c:=.fro _ _) js Z ⟨_,.head⟩ Z)<|z7 Z Z c7<|aj j6 Z<|z7 Z Z c7<|z8 (za jr Z jn (by decide) Z Z)<|z7 Z Z c7<|z8 (zd (c:=.fro _ _) js Z ⟨_,.head⟩ Z)<|z7 Z Z c7<|aj j6 Z<|z7 Z Z c7<|z8 (yl Z Z)<|aq Z c7 Z<|ah Z<|zm (s:=164) Z (fun c8=>?_) (fun c8=>?_)
            ·refine z2 Z Z c8<|z2 Z Z c8<|z2 Z Z c8<|z2 Z Z c8<|ap Z c8 Z<|z6 ?_
             exact ⟨(),gz,⟨jb (by simp_all[bn]<;>grind),trivial⟩,aS,trivial⟩
            ·refine z7 Z Z c8<|z8 (za jr Z jn (by decide) Z Z)<|z7 Z Z c8<|z8 (zd (c:=.fro _ _) js Z ⟨_,.head⟩ Z)<|z7 Z Z c8<|aj j6 Z<|z7 Z Z c8<|ay Z Z<|aq Z c8 Z<|z6 ?_
             exact ⟨(),gz,⟨jb (by simp_all[bn]<;>grind),trivial⟩,aS,trivial⟩
          ·rintro _ _
           refine zw Z (fun cq=>?_) (fun cq=>?_)
           ·refine ao<|ab Z<|z6<|ze<|zi (x:=.bool _) Z ?_
            rw[qy (fun h=>by have:=(h.2.2.2.2.2 _ (qs hk2)).1 _ (qs hp2);obtain ⟨h1,h2,h3,_⟩:=this;rw[h1,h2] at cq;simp only[Bool.not_true,Bool.false_or,decide_true,decide_eq_true_eq] at cq;omega)]
           ·have hq3:bn f f.blocks[j].phis[p].dst=true∧f.blocks[j].phis[p].args.length=f.blocks[j].phis[p].from_.length∧1≤f.blocks[j].phis[p].args.length:=by
             rcases Bool.or_eq_false_iff.1 cq with ⟨a1,a2⟩
             rcases Bool.or_eq_false_iff.1 a2 with ⟨a3,a4⟩
             exact ⟨by simpa using a1,by simp only[Bool.not_eq_false',decide_eq_true_eq] at a3;omega,by have:=of_decide_eq_false a4;omega⟩
            refine zg<|ao<|z8 (za jr Z jn (by decide) Z Z)<|z8 (zd (c:=.fro _ _) js Z ⟨_,.head⟩ Z)<|aj j6 Z<|aa Z<|z6<|zk<|yd (γ:=Nat) [1,3,9,10,12,15,107,108,109,144,145,146,172] (fun m=>[(173,.int .i64 m)]) (fun m=>[(i15,.cells 77 (bD f.blocks[j].phis[p])),(i12,.cells 62 (bc f.blocks[j]))]) (fun m=>m≤f.blocks[j].phis[p].args.length∧(f.blocks[j].phis[p].args.take m).all (bn f)=true∧(f.blocks[j].phis[p].from_.take m).all (dk f)=true) (fun m=>f.blocks[j].phis[p].args.length - m) 0 aY aS (⟨qr _,Z,Z⟩) ?_
            rintro m ⟨hm,ha1,ha2⟩
            refine ao<|ay Z Z<|z6<|zb<|zp Z (fun cm=>?_) (fun cm=>?_)
            ·have hm1:m<f.blocks[j].phis[p].args.length:=by omega
             have hm2:m<f.blocks[j].phis[p].from_.length:=by omega
             refine zg<|zb<|zk<|ao<|aa Z<|ax Z<|z6<|zb<|yp (γ:=Unit) [1,3,9,10,12,15,107,108,109,144,145,146,172,173] (fun u=>[(193,.bool (!bn f f.blocks[j].phis[p].args[m]||!dk f f.blocks[j].phis[p].from_[m]))]) (fun u=>[(i15,.cells 77 (bD f.blocks[j].phis[p])),(i12,.cells 62 (bc f.blocks[j]))]) (fun u=>True) ?_ (fun _ _ h=>h) ?_
             ·refine bj<|z8 (za jr Z jn (by decide) Z Z)<|z8 (zd (c:=.fro _ _) js Z ⟨_,.head⟩ Z)<|aa Z<|z8 (q8 j6 j7 Z Z Z (qo (by omega)))<|aN je Z<|aa Z<|zh (dW _ _) Z<|aE Z<|ah Z<|zm (s:=184) Z (fun c9=>?_) (fun c9=>?_)
              ·refine z2 Z Z c9<|z2 Z Z c9<|z2 Z Z c9<|z2 Z Z c9<|z2 Z Z c9<|z2 Z Z c9<|z2 Z Z c9<|z2 Z Z c9<|ap Z c9 Z<|z6 ?_
               exact ⟨(),⟨rfl,rfl,rfl,rfl,rfl,rfl,rfl,rfl,rfl,rfl,rfl,rfl,rfl,rfl,trivial⟩,⟨jb (by simp_all[bn,dk]<;>grind),trivial⟩,aS,trivial⟩
              ·refine z7 Z Z c9<|z8 (za jr Z jn (by decide) Z Z)<|z7 Z Z c9<|z8 (zd (c:=.fro _ _) js Z ⟨_,.head⟩ Z)<|z7 Z Z c9<|aa Z<|z7 Z Z c9<|z8 (q8 j6 j7 Z Z Z (qo (by omega)))<|z7 Z Z c9<|aN je Z<|z7 Z Z c9<|aa Z<|z7 Z Z c9<|zh (dW _ _) Z<|z7 Z Z c9<|aE Z<|aq Z c9 Z<|z6 ?_
               exact ⟨(),⟨rfl,rfl,rfl,rfl,rfl,rfl,rfl,rfl,rfl,rfl,rfl,rfl,rfl,rfl,trivial⟩,⟨jb (by simp_all[bn,dk]<;>grind),trivial⟩,aS,trivial⟩
             ·rintro _ _
              refine zw Z (fun cw=>?_) (fun cw=>?_)
              ·refine ao<|ab Z<|z6<|ze<|zi (x:=.bool _) Z ?_
               rw[qy (fun h=>by have:=(h.2.2.2.2.2 _ (qs hk2)).1 _ (qs hp2);obtain ⟨_,_,_,h4,h5⟩:=this;have h6:=List.all_eq_true.1 h4 _ (qs hm1);have h7:=List.all_eq_true.1 h5 _ (qs hm2);rw[h6,h7] at cw;cases cw)]
              ·refine zg<|bj<|aF Z Z<|aa Z<|z6 ?_
               exact ⟨m+1,⟨rfl,rfl,rfl,rfl,rfl,rfl,rfl,rfl,rfl,rfl,rfl,rfl,rfl,trivial⟩,aY,aS,⟨hm1,cA hm1 ha1 (by simp at cw;exact cw.1),cA hm2 ha2 (by simp at cw;exact cw.2)⟩,by omega⟩
            ·rw[f7 (by omega)] at ha1
             rw[f7 (by omega)] at ha2
             refine yc<|bj<|aF Z Z<|aa Z<|z6 ?_
             exact ⟨p+1,⟨rfl,rfl,rfl,rfl,rfl,rfl,rfl,rfl,rfl,rfl,trivial⟩,aY,⟨_,(.drop (.refl _)),rfl⟩,⟨hp2,cX hp2 hphi ⟨hq3.1,hq3.2.1,hq3.2.2,ha1,ha2⟩⟩,by omega⟩
         ·rw[f7 (by omega)] at hphi
          refine yc<|zb<|ao<|z8 (za j9 Z jw (by decide) Z Z)<|z8 (zd (c:=.fro _ _) Zb Z ⟨_,.head⟩ Z)<|aj jm Z<|aa Z<|z6<|zk<|yd (γ:=Nat) [1,3,9,10,12,107,108,109,197,198] (fun p=>[(199,.int .i64 p)]) (fun p=>[(i12,.cells 62 (bc f.blocks[j]))]) (fun p=>p≤f.blocks[j].insts.length∧∀q∈f.blocks[j].insts.take p,kQ f q) (fun p=>f.blocks[j].insts.length - p) 0 aY aS (⟨qr _,by simp⟩) ?_
          rintro p ⟨hp,hins⟩
          refine ao<|ay Z Z<|z6<|zb<|zp Z (fun cp=>?_) (fun cp=>?_)
          ·have hp2:p<f.blocks[j].insts.length:=by omega
           have hq1:=hb4 _ (qs hp2)
           have hl6:=hq1.lt
           refine zg<|zb<|zk<|ao<|z8 (q8 jm jv Z Z Z (qo (by omega)))<|ac Zr jv Z Z<|zz (cs:=[.int .i64 0,.int .i64 0,.raw (.slice none 0 0),.int .i64 0]) Zs Z Z<|fun i18=>zx jv Z Z Z Z Z Z .head Z<|z6<|zb<|zb<|yp (γ:=Unit) [1,3,9,10,12,18,107,108,109,197,198,199] (fun u=>[(210,.bool (decide (f.blocks[j].insts[p].op<0)||decide (26<f.blocks[j].insts[p].op)))]) (fun u=>[(i18,.cells 67 (bf f.blocks[j].insts[p])),(i12,.cells 62 (bc f.blocks[j]))]) (fun u=>True) ?_ (fun _ _ h=>h) ?_
           ·refine bj<|z8 (za jd Z Z7 (by decide) Z Z)<|z8 (zd (c:=.int _ _) Zh Z ⟨_,.head⟩ Z)<|ay Z Z<|ah Z<|zm (s:=206) Z (fun c10=>?_) (fun c10=>?_)
            ·refine z2 Z Z c10<|z2 Z Z c10<|z2 Z Z c10<|ap Z c10 Z<|z6 ?_
             exact ⟨(),gz,⟨jb (by simp_all<;>grind),trivial⟩,aS,trivial⟩
            ·refine z7 Z Z c10<|z8 (za jd Z Z7 (by decide) Z Z)<|z7 Z Z c10<|z8 (zd (c:=.int _ _) Zh Z ⟨_,.head⟩ Z)<|z7 Z Z c10<|z8 (q3 Z Z)<|aq Z c10 Z<|z6 ?_
             exact ⟨(),gz,⟨jb (by simp_all<;>grind),trivial⟩,aS,trivial⟩
           ·rintro _ _
            refine zw Z (fun cq=>?_) (fun cq=>?_)
            ·refine ao<|ab Z<|z6<|ze<|zi (x:=.bool _) Z ?_
             rw[qy (fun h=>by have:=(h.2.2.2.2.2 _ (qs hk2)).2.1 _ (qs hp2);obtain ⟨h1,h2,_⟩:=this;simp at cq;omega)]
            ·have hop:0≤f.blocks[j].insts[p].op∧f.blocks[j].insts[p].op≤26:=by simp at cq;omega
             have hrow:ec[f.blocks[j].insts[p].op.toNat]?=some (bm f.blocks[j].insts[p].op):=by unfold bm;rw[if_pos hop.1,qo (show _<27 by omega)];rfl
             refine zg<|zb<|yp (γ:=Nat) [1,3,9,10,12,18,107,108,109,197,198,199] (fun i=>[(19,.po i 0)]) (fun i=>[(i18,.cells 67 (bf f.blocks[j].insts[p])),(i,.cells 97 (l2 (bm f.blocks[j].insts[p].op))),(i12,.cells 62 (bc f.blocks[j]))]) (fun i=>True) ?_ (fun _ _ h=>h) ?_
             ·refine zo (fun j=>Nat.beq j 6) (by kernel_rfl) Z (zq (.r (.rest _)))<|ad 1 Z (za jd Z Z7 (by decide) Z Z)<|ad 2 Z (zd (c:=.int _ _) Zh Z ⟨_,.head⟩ Z)<|qb (i:=0) (j:=5) Z Z (by kernel_rfl) ?_ ?_
              ·refine zh (fb) Z<|z6<|ad 3 Z (q8 (j:=(f.blocks[j].insts[p].op.toNat)) Ya Zw Z Z (w0 hop.1).symm hrow)<|ad 4 Z (yu isAgg97 Zw Z Z)<|bl 5 Z<|zz (cs:=[.str ⟨#[]⟩,.str ⟨#[]⟩,.str ⟨#[]⟩]) zeroValue97 Z Z<|fun i19=>z6<|ya<|yg (i:=6) Z (by kernel_rfl) (by kernel_rfl)<|zx Zw Z Z Z Z Z Z .t1 Z<|z6<|ye (by kernel_rfl) ?_
               exact ⟨i19,gz,aY,aS,trivial⟩
              ·refine zz (cs:=[.str ⟨#[]⟩,.str ⟨#[]⟩,.str ⟨#[]⟩]) zeroValue97 Z Z<|fun i19=>z6<|bl 0 Z<|zh (fb) Z<|z6<|ad 3 Z (q8 (j:=(f.blocks[j].insts[p].op.toNat)) Ya Zw Z Z (w0 hop.1).symm hrow)<|ad 4 Z (yu isAgg97 Zw Z Z)<|ya<|yg (i:=6) Z (by kernel_rfl) (by kernel_rfl)<|zx Zw Z Z Z Z Z Z .t1 Z<|z6<|ye (by kernel_rfl) ?_
               exact ⟨i19,gz,aY,aS,trivial⟩
             ·rintro i19 _
              refine zb<|zb<|yp (γ:=Unit) [1,3,9,10,12,18,107,108,109,197,198,199] (fun u=>[(258,.bool (iD f f.blocks[j].insts[p]))]) (fun u=>[(i18,.cells 67 (bf f.blocks[j].insts[p])),(i19,.cells 97 (l2 (bm f.blocks[j].insts[p].op))),(i12,.cells 62 (bc f.blocks[j]))]) (fun u=>True) ?_ (fun _ _ h=>h) ?_
              ·refine bj<|z8 (za jd Z jn (by decide) Z Z)<|z8 (zd (c:=.fro _ _) js Z ⟨_,.head⟩ Z)<|aj j6 Z<|z8 (za Zj Z Zg (by decide) Z Z)<|z8 (zd (c:=.str _) Zn Z ⟨_,.t1⟩ Z)<|z8 (Gv.lenT Zd Z)<|z8 (yl Z Z)<|ah Z<|zm (s:=223) Z (fun c11=>?_) (fun c11=>?_)
               ·refine z2 Z Z c11<|z2 Z Z c11<|z2 Z Z c11<|z2 Z Z c11<|z2 Z Z c11<|z2 Z Z c11<|z2 Z Z c11<|ap Z c11 Z<|ah Z<|z2 Z Z Z<|z2 Z Z Z<|z2 Z Z Z<|z2 Z Z Z<|zc Z Z<|zc Z Z<|zc Z Z<|zc Z Z<|zc Z Z<|z2 Z Z Z<|ap Z Z Z<|ah Z<|z2 Z Z Z<|z2 Z Z Z<|z2 Z Z Z<|z2 Z Z Z<|zc Z Z<|zc Z Z<|zc Z Z<|z2 Z Z Z<|z2 Z Z Z<|zc Z Z<|zc Z Z<|zc Z Z<|z2 Z Z Z<|ap Z Z Z<|z6 ?_
                exact ⟨(),gz,⟨jb (by simp_all[iD,fI,bn]<;>grind),trivial⟩,aS,trivial⟩
               ·refine z7 Z Z c11<|z8 (za Zj Z Zg (by decide) Z Z)<|z7 Z Z c11<|z8 (zd (c:=.str _) Zn Z ⟨_,.t1⟩ Z)<|z7 Z Z c11<|z8 (yx Z Z)<|z7 Z Z c11<|z8 (za jd Z j7 (by decide) Z Z)<|z7 Z Z c11<|z8 (zd (c:=.int _ _) je Z ⟨_,.head⟩ Z)<|z7 Z Z c11<|az Z Z<|z7 Z Z c11<|z8 (Gv.neqB underlying4 Z Z)<|aq Z c11 Z<|ah Z<|zm (s:=232) Z (fun c12=>?_) (fun c12=>?_)
                ·refine z2 Z Z c12<|z2 Z Z c12<|z2 Z Z c12<|z2 Z Z c12<|zc Z Z<|zc Z Z<|zc Z Z<|zc Z Z<|zc Z Z<|z2 Z Z c12<|ap Z c12 Z<|ah Z<|z2 Z Z Z<|z2 Z Z Z<|z2 Z Z Z<|z2 Z Z Z<|zc Z Z<|zc Z Z<|zc Z Z<|z2 Z Z Z<|z2 Z Z Z<|zc Z Z<|zc Z Z<|zc Z Z<|z2 Z Z Z<|ap Z Z Z<|z6 ?_
                 exact ⟨(),gz,⟨jb (by simp_all[iD,fI,bn]<;>grind),trivial⟩,aS,trivial⟩
                ·refine z7 Z Z c12<|z8 (za jd Z j7 (by decide) Z Z)<|z7 Z Z c12<|z8 (zd (c:=.int _ _) je Z ⟨_,.head⟩ Z)<|z7 Z Z c12<|z8 (yl Z Z)<|z7 Z Z c12<|ah Z<|zm (s:=236) Z (fun c13=>?_) (fun c13=>?_)
                 ·refine z7 Z Z c13<|z8 (za jd Z j7 (by decide) Z Z)<|z7 Z Z c13<|z8 (zd (c:=.int _ _) je Z ⟨_,.head⟩ Z)<|z7 Z Z c13<|aa Z<|z7 Z Z c13<|zh (dW _ _) Z<|z7 Z Z c13<|aE Z<|z7 Z Z c12<|ap Z c13 Z<|aq Z c12 Z<|ah Z<|zm (s:=244) Z (fun c14=>?_) (fun c14=>?_)
                  ·refine z2 Z Z c14<|z2 Z Z c14<|z2 Z Z c14<|z2 Z Z c14<|zc Z Z<|zc Z Z<|zc Z Z<|z2 Z Z c14<|z2 Z Z c14<|zc Z Z<|zc Z Z<|zc Z Z<|z2 Z Z c14<|ap Z c14 Z<|z6 ?_
                   exact ⟨(),gz,⟨jb (by simp_all[iD,fI,bn]<;>grind),trivial⟩,aS,trivial⟩
                  ·refine z7 Z Z c14<|z8 (za jd Z Z0 (by decide) Z Z)<|z7 Z Z c14<|z8 (zd (c:=.int _ _) Zz Z ⟨_,.head⟩ Z)<|z7 Z Z c14<|z8 (yl Z Z)<|z7 Z Z c14<|ah Z<|zm (s:=248) Z (fun c15=>?_) (fun c15=>?_)
                   ·refine z7 Z Z c15<|z8 (za Zj Z Zg (by decide) Z Z)<|z7 Z Z c15<|z8 (zd (c:=.str _) Zn Z ⟨_,.t1⟩ Z)<|z7 Z Z c15<|z8 (Gv.neqT Z Z)<|z7 Z Z c14<|ap Z c15 Z<|z7 Z Z c14<|ah Z<|zm (s:=253) Z (fun c16=>?_) (fun c16=>?_)
                    ·refine z7 Z Z c16<|z8 (za Zj Z Zg (by decide) Z Z)<|z7 Z Z c16<|z8 (zd (c:=.str _) Zn Z ⟨_,.t1⟩ Z)<|z7 Z Z c16<|z8 (Gv.neqT Z Z)<|z7 Z Z c14<|ap Z c16 Z<|aq Z c14 Z<|z6 ?_
                     exact ⟨(),gz,⟨jb (by simp_all[iD,fI,bn]<;>grind),trivial⟩,aS,trivial⟩
                    ·refine z2 Z Z c16<|z2 Z Z c16<|z2 Z Z c16<|z7 Z Z c14<|aq Z c16 Z<|aq Z c14 Z<|z6 ?_
                     exact ⟨(),gz,⟨jb (by simp_all[iD,fI,bn]<;>grind),trivial⟩,aS,trivial⟩
                   ·refine z2 Z Z c15<|z2 Z Z c15<|z2 Z Z c15<|z7 Z Z c14<|aq Z c15 Z<|z7 Z Z c14<|ah Z<|z2 Z Z Z<|z2 Z Z Z<|z2 Z Z Z<|z7 Z Z c14<|aq Z Z Z<|aq Z c14 Z<|z6 ?_
                    exact ⟨(),gz,⟨jb (by simp_all[iD,fI,bn]<;>grind),trivial⟩,aS,trivial⟩
                 ·refine z2 Z Z c13<|z2 Z Z c13<|z2 Z Z c13<|z2 Z Z c13<|z2 Z Z c13<|z7 Z Z c12<|aq Z c13 Z<|aq Z c12 Z<|ah Z<|z7 Z Z Z<|z8 (za jd Z Z0 (by decide) Z Z)<|z7 Z Z Z<|z8 (zd (c:=.int _ _) Zz Z ⟨_,.head⟩ Z)<|z7 Z Z Z<|z8 (yl Z Z)<|z7 Z Z Z<|ah Z<|zm (s:=248) Z (fun c17=>?_) (fun c17=>?_)
                  ·refine z7 Z Z c17<|z8 (za Zj Z Zg (by decide) Z Z)<|z7 Z Z c17<|z8 (zd (c:=.str _) Zn Z ⟨_,.t1⟩ Z)<|z7 Z Z c17<|z8 (Gv.neqT Z Z)<|z7 Z Z Z<|ap Z c17 Z<|z7 Z Z Z<|ah Z<|zm (s:=253) Z (fun c18=>?_) (fun c18=>?_)
                   ·refine z7 Z Z c18<|z8 (za Zj Z Zg (by decide) Z Z)<|z7 Z Z c18<|z8 (zd (c:=.str _) Zn Z ⟨_,.t1⟩ Z)<|z7 Z Z c18<|z8 (Gv.neqT Z Z)<|z7 Z Z Z<|ap Z c18 Z<|aq Z Z Z<|z6 ?_
                    exact ⟨(),gz,⟨jb (by simp_all[iD,fI,bn]<;>grind),trivial⟩,aS,trivial⟩
                   ·refine z2 Z Z c18<|z2 Z Z c18<|z2 Z Z c18<|z7 Z Z Z<|aq Z c18 Z<|aq Z Z Z<|z6 ?_
                    exact ⟨(),gz,⟨jb (by simp_all[iD,fI,bn]<;>grind),trivial⟩,aS,trivial⟩
                  ·refine z2 Z Z c17<|z2 Z Z c17<|z2 Z Z c17<|z7 Z Z Z<|aq Z c17 Z<|z7 Z Z Z<|ah Z<|z2 Z Z Z<|z2 Z Z Z<|z2 Z Z Z<|z7 Z Z Z<|aq Z Z Z<|aq Z Z Z<|z6 ?_
                   exact ⟨(),gz,⟨jb (by simp_all[iD,fI,bn]<;>grind),trivial⟩,aS,trivial⟩
              ·rintro _ _
               refine zw Z (fun cw=>?_) (fun cw=>?_)
               ·refine ao<|ab Z<|z6<|ze<|zi (x:=.bool _) Z ?_
                rw[qy (fun h=>by have:=(h.2.2.2.2.2 _ (qs hk2)).2.1 _ (qs hp2);rw[this.2.2.1] at cw;cases cw)]
               ·refine zg<|ao<|z8 (za jd Z jn (by decide) Z Z)<|z8 (zd (c:=.fro _ _) js Z ⟨_,.head⟩ Z)<|aj j6 Z<|aa Z<|z6<|zk<|yd (γ:=Nat) [1,3,9,10,12,107,108,109,197,198,199,260,261] (fun m=>[(262,.int .i64 m)]) (fun m=>[(i18,.cells 67 (bf f.blocks[j].insts[p])),(i12,.cells 62 (bc f.blocks[j]))]) (fun m=>m≤f.blocks[j].insts[p].args.length∧(f.blocks[j].insts[p].args.take m).all (bn f)=true) (fun m=>f.blocks[j].insts[p].args.length - m) 0 aY ⟨_,(.keep (.drop (.refl _))),Z⟩ (⟨qr _,Z⟩) ?_
                rintro m ⟨hm,ha1⟩
                refine ao<|ay Z Z<|z6<|zb<|zp Z (fun cm=>?_) (fun cm=>?_)
                ·have hm1:m<f.blocks[j].insts[p].args.length:=by omega
                 refine zg<|zb<|zk<|ao<|z8 (q8 j6 j7 Z Z Z (qo (by omega)))<|aN je Z<|ax Z<|z6<|ao<|aa Z<|aa Z<|zh (dW _ _) Z<|aE Z<|z6<|zw Z (fun ca=>?_) (fun ca=>?_)
                 ·have ca:bn f f.blocks[j].insts[p].args[m]=false:=by simp[bn] at ca ⊢;omega
                  refine ao<|ab Z<|z6<|ze<|zi (x:=.bool _) Z ?_
                  rw[qy (fun h=>by have:=(h.2.2.2.2.2 _ (qs hk2)).2.1 _ (qs hp2);have h6:=List.all_eq_true.1 this.2.2.2 _ (qs hm1);rw[ca] at h6;cases h6)]
                 ·have ca:bn f f.blocks[j].insts[p].args[m]=true:=by simp[bn] at ca ⊢;omega
                  refine zg<|bj<|aF Z Z<|aa Z<|z6 ?_
                  exact ⟨m+1,⟨rfl,rfl,rfl,rfl,rfl,rfl,rfl,rfl,rfl,rfl,rfl,rfl,rfl,trivial⟩,aY,aS,⟨hm1,cA hm1 ha1 ca⟩,by omega⟩
                ·rw[f7 (by omega)] at ha1
                 refine yc<|bj<|aF Z Z<|aa Z<|z6 ?_
                 exact ⟨p+1,⟨rfl,rfl,rfl,rfl,rfl,rfl,rfl,rfl,rfl,rfl,trivial⟩,aY,⟨_,(.drop (.refl _)),rfl⟩,⟨hp2,cX hp2 hins ⟨hop.1,hop.2,cw,ha1⟩⟩,by omega⟩
          ·rw[f7 (by omega)] at hins
           refine yc<|ao<|z8 (za j9 Z Zt (by decide) Z Z)<|z8 (Gv.loadAC (l:=[_,_,_,_]) isAgg60 Zt Z ⟨_,.head⟩ Z Z)<|zz (cs:=[.int .i64 0,.int .i64 0,.int .i64 0,.int .i64 0]) zeroValue60 Z Z<|fun i22=>zx Zt Z Z Z Z Z Z .head Z<|z6<|ao<|ab Z<|z6<|zb<|ao<|z8 (za ji Z Y3 (by decide) Z Z)<|z8 (zd (c:=.int _ _) Y9 Z ⟨_,.head⟩ Z)<|z6<|yp (γ:=Unit) [1,3,9,10,107,108,109] (fun u=>[(23,.bool (bh f f.blocks[j].term))]) (fun u=>[]) (fun u=>True) ?_ (fun _ _ h=>h) ?_
           ·refine zk<|ao<|az Z Z<|ab Z<|z6<|zw Z (fun c19=>?_) (fun c19=>?_)
            ·refine bj<|z8 (za ji Z Z4 (by decide) Z Z)<|z8 (yi (j:=0) jx j7 Z Z Z (by decide) Z)<|z8 (zd (c:=.int _ _) je Z ⟨_,.head⟩ Z)<|aa Z<|zh (dW _ _) Z<|ah Z<|zm (s:=283) Z (fun c20=>?_) (fun c20=>?_)
             ·refine z7 Z Z c20<|z8 (za ji Z Z4 (by decide) Z Z)<|z7 Z Z c20<|z8 (yi (j:=1) jx j7 Z Z Z (by decide) Z)<|z7 Z Z c20<|z8 (zd (c:=.int _ _) je Z ⟨_,.head⟩ Z)<|z7 Z Z c20<|az Z Z<|ap Z c20 Z<|ah Z<|zm (s:=289) Z (fun c21=>?_) (fun c21=>?_)
              ·refine z7 Z Z c21<|z8 (za ji Z j7 (by decide) Z Z)<|z7 Z Z c21<|z8 (zd (c:=.int _ _) je Z ⟨_,.head⟩ Z)<|z7 Z Z c21<|az Z Z<|ap Z c21 Z<|ab Z<|z6 ?_
               exact ⟨(),jI,⟨jb (by simp_all[bh,bn,dk]<;>grind),trivial⟩,⟨_,(.drop (.drop (.refl _))),rfl⟩,trivial⟩
              ·refine z2 Z Z c21<|z2 Z Z c21<|z2 Z Z c21<|aq Z c21 Z<|ab Z<|z6 ?_
               exact ⟨(),jI,⟨jb (by simp_all[bh,bn,dk]<;>grind),trivial⟩,⟨_,(.drop (.drop (.refl _))),rfl⟩,trivial⟩
             ·refine z2 Z Z c20<|z2 Z Z c20<|z2 Z Z c20<|z2 Z Z c20<|aq Z c20 Z<|ah Z<|z2 Z Z Z<|z2 Z Z Z<|z2 Z Z Z<|aq Z Z Z<|ab Z<|z6 ?_
              exact ⟨(),jI,⟨jb (by simp_all[bh,bn,dk]<;>grind),trivial⟩,⟨_,(.drop (.drop (.refl _))),rfl⟩,trivial⟩
            ·refine ao<|az Z Z<|ab Z<|z6<|zw Z (fun c22=>?_) (fun c22=>?_)
             ·refine bj<|z8 (za ji Z j7 (by decide) Z Z)<|z8 (zd (c:=.int _ _) je Z ⟨_,.head⟩ Z)<|aa Z<|zh (dW _ _) Z<|ah Z<|zm (s:=300) Z (fun c23=>?_) (fun c23=>?_)
              ·refine z7 Z Z c23<|z8 (za ji Z Z4 (by decide) Z Z)<|z7 Z Z c23<|z8 (yi (j:=0) jx j7 Z Z Z (by decide) Z)<|z7 Z Z c23<|z8 (zd (c:=.int _ _) je Z ⟨_,.head⟩ Z)<|z7 Z Z c23<|aa Z<|z7 Z Z c23<|zh (dW _ _) Z<|ap Z c23 Z<|ah Z<|zm (s:=307) Z (fun c24=>?_) (fun c24=>?_)
               ·refine z7 Z Z c24<|z8 (za ji Z Z4 (by decide) Z Z)<|z7 Z Z c24<|z8 (yi (j:=1) jx j7 Z Z Z (by decide) Z)<|z7 Z Z c24<|z8 (zd (c:=.int _ _) je Z ⟨_,.head⟩ Z)<|z7 Z Z c24<|aa Z<|z7 Z Z c24<|zh (dW _ _) Z<|ap Z c24 Z<|ab Z<|z6 ?_
                exact ⟨(),jI,⟨jb (by simp_all[bh,bn,dk]<;>grind),trivial⟩,⟨_,(.drop (.drop (.refl _))),rfl⟩,trivial⟩
               ·refine z2 Z Z c24<|z2 Z Z c24<|z2 Z Z c24<|z2 Z Z c24<|z2 Z Z c24<|aq Z c24 Z<|ab Z<|z6 ?_
                exact ⟨(),jI,⟨jb (by simp_all[bh,bn,dk]<;>grind),trivial⟩,⟨_,(.drop (.drop (.refl _))),rfl⟩,trivial⟩
              ·refine z2 Z Z c23<|z2 Z Z c23<|z2 Z Z c23<|z2 Z Z c23<|z2 Z Z c23<|aq Z c23 Z<|ah Z<|z2 Z Z Z<|z2 Z Z Z<|z2 Z Z Z<|z2 Z Z Z<|z2 Z Z Z<|aq Z Z Z<|ab Z<|z6 ?_
               exact ⟨(),jI,⟨jb (by simp_all[bh,bn,dk]<;>grind),trivial⟩,⟨_,(.drop (.drop (.refl _))),rfl⟩,trivial⟩
             ·refine ao<|az Z Z<|ab Z<|z6<|zw Z (fun c25=>?_) (fun c25=>?_)
              ·refine bj<|z8 (za ji Z j7 (by decide) Z Z)<|z8 (zd (c:=.int _ _) je Z ⟨_,.head⟩ Z)<|aa Z<|zh (dW _ _) Z<|ah Z<|zm (s:=320) Z (fun c26=>?_) (fun c26=>?_)
               ·refine z7 Z Z c26<|z8 (za ji Z Z4 (by decide) Z Z)<|z7 Z Z c26<|z8 (Gv.loadAC (l:=[_,_]) isAgg35 Z4 Z ⟨_,.head⟩ Z Z)<|z7 Z Z c26<|z8 (Gv.buildA (cps:=[]) (rs:=[.int .i64 0,.int .i64 0]) we Z Z Z)<|z7 Z Z c26<|z8 (Gv.eqlP (xs:=[.int _ _,.int _ _]) (ys:=[.int _ _,.int _ _]) (by kernel_rfl) Z Z (fun w=>kP _ _ _ _ w))<|ap Z c26 Z<|ab Z<|z6 ?_
                exact ⟨(),jI,⟨jb (by simp_all[bh,bn,dk]<;>grind),trivial⟩,⟨_,(.drop (.drop (.refl _))),rfl⟩,trivial⟩
               ·refine z2 Z Z c26<|z2 Z Z c26<|z2 Z Z c26<|z2 Z Z c26<|aq Z c26 Z<|ab Z<|z6 ?_
                exact ⟨(),jI,⟨jb (by simp_all[bh,bn,dk]<;>grind),trivial⟩,⟨_,(.drop (.drop (.refl _))),rfl⟩,trivial⟩
              ·refine zg ?_
               exact ⟨(),jI,⟨jb (by simp_all[bh,bn,dk]<;>grind),trivial⟩,⟨_,(.drop (.drop (.refl _))),rfl⟩,trivial⟩
           ·rintro _ _
            refine ao<|ah Z<|aE Z<|z6<|zw Z (fun ct=>?_) (fun ct=>?_)
            ·refine ao<|ab Z<|z6<|ze<|zi (x:=.bool _) Z ?_
             rw[qy (fun h=>by have:=(h.2.2.2.2.2 _ (qs hk2)).2.2;rw[this] at ct;cases ct)]
            ·have ct:bh f f.blocks[j].term=true:=by simpa using ct
             refine zg<|bj<|aF Z Z<|aa Z<|z6 ?_
             exact ⟨j+1,qJ,⟨rfl,(congrArg (AV.int .i64) (by rw[hs1];omega)),trivial⟩,aS,⟨hk2,fun i h hi=>by rcases Nat.lt_or_ge i j with h3|h3;exact hnam i h h3;obtain rfl:i=j:=(by omega);exact ⟨by simpa using cv,hno⟩,by omega,cX hk2 hblk ⟨hphi,hins,ct⟩⟩,by omega⟩
     ·have hkn:k=f.blocks.length:=by omega
      subst hkn
      rw[qt] at hsum hblk
      refine yc<|ao<|ab Z<|z6<|ze<|zi (x:=.bool _) Z ?_
      rw[qx (show b5 f from ⟨c1,hpars,hvars,fun i h=>hnam i h h,hsum,hblk⟩)]
end
section
open Go.Proofs.Tryz
theorem cU.perm {O O':OL} {i:Nat} {o:aW} (h:cU O i o O'):O.Perm ((i,o)::O'):=by
 induction h with
 |head=>exact .refl _
 |tail _ ih=>exact (ih.cons _).trans (.swap _ _ _)
section
variable {E:World} {P:Program} {f:FuncId} {as0:List AV} {O:OL}
theorem bC.exact {γ:Type} {x:γ→AV} {M:γ→OL} {p:γ→Prop} (h:bC P E f as0 O (fun y O'=>∃g,y=x g∧Left O' (M g)∧p g)):bC P E f as0 O (fun y O'=>∃g,y=x g∧O'=M g∧p g):=
 h.know fun I F w v y O' ⟨g,e,hl,hp⟩ h1 h2=>⟨I,y,M g,.refl _,h1,hl.sla h2,g,e,rfl,hp⟩
theorem bC.frozen {k m:Nat} {T:TypeId} {rows:List (List AV)} (h:bC P E f as0 [] (fun y O'=>∃i:Nat,y=.own i m∧Left O' [(i,.grow k T rows.flatten)]∧True)) (hk:∀r∈rows,r.length=k) (hk0:0<k) (hm:rows.length=m):aV P E f as0 (.fro k rows):=
 h.know fun I F w v y O' ⟨i,e,hl,_⟩ h1 h2=>by
  subst e
  obtain ⟨J,h3,h4,h5⟩:=Go.Proofs.YtbconpmnckokoaaGreatDoor.know .head hk hk0 hm (hl.sla h2)
  exact ⟨J,_,[],h3,h5 _ h1,h4,rfl⟩
end
set_option linter.defProp false
def zn:=@cU.perm
end
end Go.Proofs.YtbconpmnckokoaaGreatDoor
