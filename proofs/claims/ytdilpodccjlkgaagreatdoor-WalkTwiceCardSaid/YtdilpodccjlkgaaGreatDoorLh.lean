/- An instruction's line by the document; an end's line; the chapter's example. No conditions but bounds. -/
import Derived.Test.YtdilpodccjlkgaaGreatDoorLg
import Derived.Test.YtdilpodccjlkgaaGreatDoorLb
set_option linter.unusedVariables false
set_option linter.unusedSimpArgs false
set_option linter.unusedSectionVars false
namespace Go.Proofs.YtdilpodccjlkgaaGreatDoor
open Go.Proofs.Tryz
open Go.Proofs Go.Lib Go.Shelf Go.RowKit
set_option maxRecDepth 20000
variable {E:World}
def ui (f:ad) (p:eJ):Prop:=aT f p.dst=true∧p.args.length=p.from_.length∧1≤p.args.length∧p.args.all (aT f)=true∧p.from_.all (dV f)=true
def iO (x:aB):Bool:=decide ((bS x.op).1=⟨#[99,111,110,115,116]⟩)||decide ((bS x.op).1=⟨#[112,105]⟩)
def lW (f:ad) (x:aB):Bool:=!decide ((x.args.length:Int)=((bS x.op).2.1.size:Int))||(!(decide ((bS x.op).2.2=⟨#[]⟩) == decide (x.dst=-1))||((!decide (x.dst=-1)&&!aT f x.dst)||(!decide (x.num=0)&&!iO x)))
def nS (f:ad) (x:aB):Prop:=0≤x.op∧x.op≤26∧lW f x=false∧x.args.all (aT f)=true
def wH (f:ad) (b:aN):Prop:=(∀p∈b.phis,ui f p)∧(∀x∈b.insts,nS f x)∧bv f b.term=true
def cL (l:List aN):Nat:=(l.map fun b=>b.phis.length+b.insts.length).sum
def kS (f:ad):Bool:=decide ((512:Int)<f.vars.length)||(decide ((8:Int)<f.params.length)||(decide ((f.vars.length:Int)<f.params.length)||(decide ((f.blocks.length:Int)<1)||decide ((64:Int)<f.blocks.length))))
def yX (f:ad) (i:Nat) (v:se):Prop:=lu v.name=true∧0≤v.ty∧v.ty≤2∧∀s∈(f.vars.take i).map (·.name),s≠v.name
def yY (f:ad) (i:Nat) (b:aN):Prop:=lu b.name=true∧∀s∈(f.blocks.take i).map (·.name),s≠b.name
def bz (f:ad):Prop:=kS f=false∧(∀i (h:i<f.params.length),f.params[i]=(i:Int))∧(∀i (h:i<f.vars.length),yX f i f.vars[i])∧(∀i (h:i<f.blocks.length),yY f i f.blocks[i])∧cL f.blocks≤1024∧∀b∈f.blocks,wH f b
instance (f:ad) (p:eJ):Decidable (ui f p):=by unfold ui;infer_instance
instance (f:ad) (x:aB):Decidable (nS f x):=by unfold nS;infer_instance
instance (f:ad) (b:aN):Decidable (wH f b):=by unfold wH;infer_instance
instance (f:ad) (i:Nat) (v:se):Decidable (yX f i v):=by unfold yX;infer_instance
instance (f:ad) (i:Nat) (b:aN):Decidable (yY f i b):=by unfold yY;infer_instance
instance (f:ad):Decidable (bz f):=by unfold bz;infer_instance
theorem uj (l:List aN) (k:Nat):cL (l.take k)≤cL l:=by
 have:cL l=cL (l.take k)+cL (l.drop k):=by
  unfold cL;rw[←List.sum_append,←qt,List.take_append_drop]
 omega
theorem nT (l:List aN) (k:Nat) (h:k<l.length):cL (l.take (k+1))=cL (l.take k)+(l[k].phis.length+l[k].insts.length):=by
 unfold cL;rw[qj h,qt,List.sum_append];simp only[List.map_cons,List.map_nil,List.sum_cons,List.sum_nil,Nat.add_zero]
theorem sw {α:Type} {g:α→ByteArray} {l:List α} {k:Nat} {s:ByteArray} (h:k<l.length) (h1:∀x∈(l.take k).map g,x≠s) (h2:¬g l[k]=s):∀x∈(l.take (k+1)).map g,x≠s:=by
 rw[qj h,qt]
 intro x hx
 rcases List.mem_append.1 hx with hx|hx
 ·exact h1 x hx
 ·simp only[List.map_cons,List.map_nil,List.mem_singleton] at hx;rw[hx];exact h2
theorem vA {α:Type} {g:α→ByteArray} {l:List α} {k i:Nat} {s:ByteArray} (h:k<l.length) (hk:k<i) (h1:∀x∈(l.take i).map g,x≠s):¬g l[k]=s:=by
 refine h1 _ (List.mem_map.2 ⟨l[k],?_,Z⟩)
 refine List.mem_iff_getElem?.2 ⟨k,?_⟩
 rw[List.getElem?_take,if_pos hk,qi h]
theorem bt {α:Type} {p:α→Bool} {l:List α} {k:Nat} (h:k<l.length) (h1:(l.take k).all p=true) (h2:p l[k]=true):(l.take (k+1)).all p=true:=by
 rw[qj h,List.all_append,h1];simp[h2]
theorem cG {α:Type} {p:α→Bool} {l:List α} {k:Nat} (h:k<l.length) (h2:p l[k]=false):¬l.all p=true:=fun h3=>by
 have:=List.all_eq_true.1 h3 _ (qm h);rw[h2] at this;cases this
theorem jI {α:Type} {l:List α} {k:Nat} (h:l.length≤k):l.take k=l:=List.take_of_length_le h
theorem ee {α:Type} {p:α→Prop} {l:List α} {k:Nat} (h:k<l.length) (h1:∀x∈l.take k,p x) (h2:p l[k]):∀x∈l.take (k+1),p x:=by
 rw[qj h]
 intro x hx
 rcases List.mem_append.1 hx with hx|hx
 ·exact h1 x hx
 ·rw[List.mem_singleton.1 hx];exact h2
def lw (f:ad):Prop:=(∀v∈f.vars,v.name.size≤140737488355328)∧∀b∈f.blocks,b.name.size≤140737488355328
set_option maxHeartbeats 8000000 in
theorem nU (f:ad) (hf:qK f) (hn:lw f) (hL:bn E):aI prog E 122 [.agg (bD f)] (.bool (decide (bz f))):=by
 obtain ⟨hf1,hf2,hf3,hf4⟩:=hf
 have hl1:=hf1.lt
 have hl2:=hf2.lt
 have hl3:=hf3.lt
 refine zo func122 Z (by decide) Z<|ah<|ya (cs:=_) Z Z Z<|ab Z<|z6<|ah<|aq je Z Y5 Z Z<|aH Yg Z<|ap Z6 Z<|ao Z<|z6<|zd<|zd<|yg (γ:=Unit) [1,3] (fun u=>[(53,.bool (kS f))]) (fun u=>[]) (fun u=>True) ?_ (fun _ _ h=>h) ?_
 ·refine aV<|aa Z<|za (yx Z Z)<|ai Z<|zp (s:=29) Z (fun c1=>?_) (fun c1=>?_)
  ·refine z7 Z Z c1<|z7 Z Z c1<|z7 Z Z c1<|z7 Z Z c1<|ar Z c1 Z<|ai Z<|z7 Z Z Z<|z7 Z Z Z<|z7 Z Z Z<|z7 Z Z Z<|z7 Z Z Z<|ar Z Z Z<|ai Z<|z7 Z Z Z<|z7 Z Z Z<|z7 Z Z Z<|z7 Z Z Z<|ar Z Z Z<|ai Z<|z7 Z Z Z<|z7 Z Z Z<|z7 Z Z Z<|z7 Z Z Z<|ar Z Z Z<|z6 ?_
   exact ⟨(),eZ,⟨jb (by simp_all[kS]<;>grind),trivial⟩,aE,trivial⟩
  ·refine z8 Z Z c1<|aq je Z j5 Z Z<|z8 Z Z c1<|aH j9 Z<|z8 Z Z c1<|ap wx Z<|z8 Z Z c1<|za (yx Z Z)<|au Z c1 Z<|ai Z<|zp (s:=35) Z (fun c2=>?_) (fun c2=>?_)
   ·refine z7 Z Z c2<|z7 Z Z c2<|z7 Z Z c2<|z7 Z Z c2<|z7 Z Z c2<|ar Z c2 Z<|ai Z<|z7 Z Z Z<|z7 Z Z Z<|z7 Z Z Z<|z7 Z Z Z<|ar Z Z Z<|ai Z<|z7 Z Z Z<|z7 Z Z Z<|z7 Z Z Z<|z7 Z Z Z<|ar Z Z Z<|z6 ?_
    exact ⟨(),eZ,⟨jb (by simp_all[kS]<;>grind),trivial⟩,aE,trivial⟩
   ·refine z8 Z Z c2<|aq je Z j5 Z Z<|z8 Z Z c2<|aH j9 Z<|z8 Z Z c2<|ap wx Z<|z8 Z Z c2<|aa Z<|z8 Z Z c2<|za (yx Z Z)<|au Z c2 Z<|ai Z<|zp (s:=42) Z (fun c3=>?_) (fun c3=>?_)
    ·refine z7 Z Z c3<|z7 Z Z c3<|z7 Z Z c3<|z7 Z Z c3<|ar Z c3 Z<|ai Z<|z7 Z Z Z<|z7 Z Z Z<|z7 Z Z Z<|z7 Z Z Z<|ar Z Z Z<|z6 ?_
     exact ⟨(),eZ,⟨jb (by simp_all[kS]<;>grind),trivial⟩,aE,trivial⟩
    ·refine z8 Z Z c3<|aq je Z Z0 Z Z<|z8 Z Z c3<|aH Zb Z<|z8 Z Z c3<|ap ji Z<|z8 Z Z c3<|aw Z Z<|au Z c3 Z<|ai Z<|zp (s:=48) Z (fun c4=>?_) (fun c4=>?_)
     ·refine z7 Z Z c4<|z7 Z Z c4<|z7 Z Z c4<|z7 Z Z c4<|ar Z c4 Z<|z6 ?_
      exact ⟨(),eZ,⟨jb (by simp_all[kS]<;>grind),trivial⟩,aE,trivial⟩
     ·refine z8 Z Z c4<|aq je Z Z0 Z Z<|z8 Z Z c4<|aH Zb Z<|z8 Z Z c4<|ap ji Z<|z8 Z Z c4<|za (yx Z Z)<|au Z c4 Z<|z6 ?_
      exact ⟨(),eZ,⟨jb (by simp_all[kS]<;>grind),trivial⟩,aE,trivial⟩
 ·rintro _ _
  refine zu Z (fun c1=>?_) (fun c1=>?_)
  ·refine ah<|ab Z<|z6<|zh<|zk (x:=.bool _) Z ?_
   rw[qw (fun h=>by rw[h.1] at c1;cases c1)]
  ·have hsz:f.vars.length≤512∧f.params.length≤8∧f.params.length≤f.vars.length∧1≤f.blocks.length∧f.blocks.length≤64:=by unfold kS at c1;simp at c1;omega
   refine zg<|zd<|ah<|aq je Z j5 Z Z<|aH j9 Z<|ap wx Z<|aa Z<|z6<|zj<|y8 (γ:=Nat) [1,3,55,56] (fun k=>[(57,.int .i64 k)]) (fun k=>[]) (fun k=>k≤f.params.length∧∀i (h:i<f.params.length),i<k→f.params[i]=(i:Int)) (fun k=>f.params.length - k) 0 aJ aE (⟨ql _,fun i h hk=>by omega⟩) ?_
   rintro k ⟨hk,hpar⟩
   refine ah<|aw Z Z<|z6<|zd<|zw Z (fun ck=>?_) (fun ck=>?_)
   ·have hk2:k<f.params.length:=by omega
    refine zg<|zd<|zj<|ah<|aa Z<|za (q8 wx wz Z Z Z (qi (by omega)))<|ay j6 Z<|ao Z<|ao Z<|z6<|ah<|aa Z<|aa Z<|aL Z Z<|z6<|zu Z (fun cp=>?_) (fun cp=>?_)
    ·refine ah<|ab Z<|z6<|zh<|zk (x:=.bool _) Z ?_
     rw[qw (fun h=>by have:=h.2.1 k hk2;simp[this] at cp)]
    ·refine zg<|aV<|aC Z Z<|aa Z<|z6 ?_
     exact ⟨k+1,iS,aJ,aE,⟨hk2,fun i h hi=>by rcases Nat.lt_or_ge i k with h3|h3;exact hpar i h h3;obtain rfl:i=k:=(by omega);simpa using cp⟩,by omega⟩
   ·have hpars:∀i (h:i<f.params.length),f.params[i]=(i:Int):=fun i h=>hpar i h (by omega)
    refine y7<|zd<|ah<|aq je Z Y5 Z Z<|aH Yg Z<|ap Z6 Z<|aa Z<|z6<|zj<|y8 (γ:=Nat) [1,3,67,68] (fun k=>[(69,.int .i64 k)]) (fun k=>[]) (fun k=>k≤f.vars.length∧∀i (h:i<f.vars.length),i<k→yX f i f.vars[i]) (fun k=>f.vars.length - k) 0 aJ aE (⟨ql _,fun i h hk=>by omega⟩) ?_
    rintro k ⟨hk,hvar⟩
    refine ah<|aw Z Z<|z6<|zd<|zw Z (fun ck=>?_) (fun ck=>?_)
    ·have hk2:k<f.vars.length:=by omega
     have hnk:f.vars[k].name.size≤140737488355328:=hn.1 _ (qm hk2)
     refine zg<|zd<|zj<|ah<|aa Z<|za (q8 Z6 Y2 Z Z Z (qi (by omega)))<|ac isAgg61 Y2 Z Z<|y5 (cs:=[.str ⟨#[]⟩,.int .i64 0]) zeroValue61 Z Z<|fun i7=>ao Z<|zz Y2 Z Z Z Z Z Z .head Z<|z6<|zd<|zd<|yg (γ:=Unit) [1,3,6,7,67,68,69] (fun u=>[(87,.bool (!lu f.vars[k].name||(decide (f.vars[k].ty<0)||decide (2<f.vars[k].ty))))]) (fun u=>[(i7,.cells 61 (e9 f.vars[k]))]) (fun u=>True) ?_ (fun _ _ h=>h) ?_
     ·refine aV<|za (zn Zf Z Zu (by decide) Z Z)<|za (zq (c:=.str _) Y0 Z ⟨_,.head⟩ Z)<|zf (pK _ (by assumption) hL) Z<|aD Z<|ai Z<|zp (s:=78) Z (fun c5=>?_) (fun c5=>?_)
      ·refine z7 Z Z c5<|z7 Z Z c5<|z7 Z Z c5<|ar Z c5 Z<|ai Z<|z7 Z Z Z<|z7 Z Z Z<|z7 Z Z Z<|ar Z Z Z<|z6 ?_
       exact ⟨(),kA,⟨jb (by simp_all<;>grind),trivial⟩,aE,trivial⟩
      ·refine z8 Z Z c5<|za (zn Zf Z Yq (by decide) Z Z)<|z8 Z Z c5<|za (zq (c:=.int _ _) isAgg59 Z ⟨_,.head⟩ Z)<|z8 Z Z c5<|aw Z Z<|au Z c5 Z<|ai Z<|zp (s:=83) Z (fun c6=>?_) (fun c6=>?_)
       ·refine z7 Z Z c6<|z7 Z Z c6<|z7 Z Z c6<|ar Z c6 Z<|z6 ?_
        exact ⟨(),kA,⟨jb (by simp_all<;>grind),trivial⟩,aE,trivial⟩
       ·refine z8 Z Z c6<|za (zn Zf Z Yq (by decide) Z Z)<|z8 Z Z c6<|za (zq (c:=.int _ _) isAgg59 Z ⟨_,.head⟩ Z)<|z8 Z Z c6<|za (yx Z Z)<|au Z c6 Z<|z6 ?_
        exact ⟨(),kA,⟨jb (by simp_all<;>grind),trivial⟩,aE,trivial⟩
     ·rintro _ _
      refine zu Z (fun cv=>?_) (fun cv=>?_)
      ·refine ah<|ab Z<|z6<|zh<|zk (x:=.bool _) Z ?_
       rw[qw (fun h=>by have:=h.2.2.1 k hk2;obtain ⟨h1,h2,h3,_⟩:=this;simp[h1] at cv;omega)]
      ·have hv3:lu f.vars[k].name=true∧0≤f.vars[k].ty∧f.vars[k].ty≤2:=by simp at cv;omega
       refine zg<|ah<|aa Z<|aa Z<|z6<|zj<|y8 (γ:=Nat) [1,3,7,67,68,69,88] (fun j=>[(89,.int .i64 j)]) (fun j=>[(i7,.cells 61 (e9 f.vars[k]))]) (fun j=>j≤k∧∀s∈(f.vars.take j).map (·.name),s≠f.vars[k].name) (fun j=>k - j) 0 aJ aE (⟨ql _,by simp⟩) ?_
       rintro j ⟨hj,hno⟩
       refine ah<|aw Z Z<|z6<|zd<|zw Z (fun cj=>?_) (fun cj=>?_)
       ·have hj1:j<f.vars.length:=by omega
        refine zg<|zd<|zj<|ah<|aa Z<|ao Z<|z6<|zd<|zt (fun j=>false) (by kernel_rfl) Z (zm (.r (.rest _)))<|aj 0 Z (bK je Z Y5 Z Z)<|aj 1 Z (eH Yg Z)<|aj 2 Z (dF Z)<|aj 3 Z (q8 Z6 Y2 Z Z Z (qi (by omega)))<|aj 4 Z (bK Zf Z Zu Z Z)<|aj 5 Z (yo (c:=.str _) Y0 Z)<|aj 6 Z (zn Zf Z Zu (by decide) Z Z)<|aj 7 Z (zq (c:=.str _) Y0 Z ⟨_,.head⟩ Z)<|aj 8 Z (Gv.eqlT Z Z)<|bV<|zw Z (fun ce=>?_) (fun ce=>?_)
        ·refine ah<|ab Z<|z6<|zh<|zk (x:=.bool _) Z ?_
         rw[qw (fun h=>by exact vA (g:=se.name) hj1 (by omega) (h.2.2.1 k hk2).2.2.2 ce)]
        ·refine zg<|aV<|aC Z Z<|aa Z<|z6 ?_
         exact ⟨j+1,kA,aJ,aE,⟨by omega,sw hj1 hno ce⟩,by omega⟩
       ·obtain rfl:j=k:=by omega
        refine y7<|aV<|aC Z Z<|aa Z<|z6 ?_
        exact ⟨j+1,iS,aJ,⟨_,(.drop (.refl _)),rfl⟩,⟨hk2,fun i h hi=>by rcases Nat.lt_or_ge i j with h3|h3;exact hvar i h h3;obtain rfl:i=j:=(by omega);exact ⟨hv3.1,hv3.2.1,hv3.2.2,hno⟩⟩,by omega⟩
    ·have hvars:∀i (h:i<f.vars.length),yX f i f.vars[i]:=fun i h=>hvar i h (by omega)
     refine y7<|ah<|aq je Z Z0 Z Z<|aH Zb Z<|ap ji Z<|ao Z<|z6<|ah<|ao Z<|z6<|zd<|ah<|aq je Z Z0 Z Z<|aH Zb Z<|ap ji Z<|aa Z<|z6<|zj<|y8 (γ:=Nat) [1,3,9,107,108] (fun g=>[(109,.int .i64 g),(10,.int .i64 (cL (f.blocks.take g)))]) (fun g=>[]) (fun g=>g≤f.blocks.length∧(∀i (h:i<f.blocks.length),i<g→yY f i f.blocks[i])∧cL (f.blocks.take g)≤1024∧∀b∈f.blocks.take g,wH f b) (fun g=>f.blocks.length - g) 0 eZ aE (⟨ql _,fun i h hk=>by omega,by simp[cL],by simp⟩) ?_
     rintro k ⟨hk,hnam,hsum,hblk⟩
     refine ah<|aw Z Z<|z6<|zd<|zw Z (fun ck=>?_) (fun ck=>?_)
     ·have hk2:k<f.blocks.length:=by omega
      have hnk:f.blocks[k].name.size≤140737488355328:=hn.2 _ (qm hk2)
      obtain ⟨hb1,hb2,hb3,hb4⟩:=hf4 _ (qm hk2)
      have hl4:=hb1.lt
      have hl5:=hb2.lt
      refine zg<|zd<|zj<|ah<|aa Z<|za (q8 ji ju Z Z Z (qi (by omega)))<|ac Y4 ju Z Z<|y5 (cs:=[.str ⟨#[]⟩,.raw (.slice none 0 0),.raw (.slice none 0 0),.int .i64 0,.int .i64 0,.int .i64 0,.int .i64 0]) Zc Z Z<|fun i12=>ao Z<|zz ju Z Z Z Z Z Z .head Z<|z6<|zd<|ah<|za (zn jg Z Zu (by decide) Z Z)<|za (zq (c:=.str _) Y0 Z ⟨_,.head⟩ Z)<|zf (pK _ (by assumption) hL) Z<|aD Z<|z6<|zu Z (fun cv=>?_) (fun cv=>?_)
      ·refine ah<|ab Z<|z6<|zh<|zk (x:=.bool _) Z ?_
       rw[qw (fun h=>by have:=(h.2.2.2.1 k hk2).1;simp[this] at cv)]
      ·refine zg<|zd<|ah<|aa Z<|aa Z<|z6<|zj<|y8 (γ:=Nat) [1,3,9,10,12,107,108,109,118] (fun j=>[(119,.int .i64 j)]) (fun j=>[(i12,.cells 51 (bN f.blocks[k]))]) (fun j=>j≤k∧∀s∈(f.blocks.take j).map (·.name),s≠f.blocks[k].name) (fun j=>k - j) 0 aJ aE (⟨ql _,by simp⟩) ?_
       rintro j ⟨hj,hno⟩
       refine ah<|aw Z Z<|z6<|zd<|zw Z (fun cj=>?_) (fun cj=>?_)
       ·have hj1:j<f.blocks.length:=by omega
        refine zg<|zd<|zj<|ah<|aa Z<|ao Z<|z6<|zd<|zt (fun j=>false) (by kernel_rfl) Z (zm (.r (.rest _)))<|aj 0 Z (bK je Z Z0 Z Z)<|aj 1 Z (eH Zb Z)<|aj 2 Z (dF Z)<|aj 3 Z (q8 ji ju Z Z Z (qi (by omega)))<|aj 4 Z (bK jg Z Zu Z Z)<|aj 5 Z (yo (c:=.str _) Y0 Z)<|aj 6 Z (zn jg Z Zu (by decide) Z Z)<|aj 7 Z (zq (c:=.str _) Y0 Z ⟨_,.head⟩ Z)<|aj 8 Z (Gv.eqlT Z Z)<|bV<|zw Z (fun ce=>?_) (fun ce=>?_)
        ·refine ah<|ab Z<|z6<|zh<|zk (x:=.bool _) Z ?_
         rw[qw (fun h=>by exact vA (g:=aN.name) hj1 (by omega) (h.2.2.2.1 k hk2).2 ce)]
        ·refine zg<|aV<|aC Z Z<|aa Z<|z6 ?_
         exact ⟨j+1,qE,aJ,aE,⟨by omega,sw hj1 hno ce⟩,by omega⟩
       ·obtain rfl:j=k:=by omega
        have hs1:=nT f.blocks j hk2
        refine y7<|ah<|aa Z<|za (zn jg Z Y9 (by decide) Z Z)<|za (zq (c:=.fro _ _) Yj Z ⟨_,.head⟩ Z)<|ap jz Z<|aC Z Z<|za (zn jg Z Zd (by decide) Z Z)<|za (zq (c:=.fro _ _) Zs Z ⟨_,.head⟩ Z)<|ap jt Z<|aC Z Z<|ao Z<|z6<|zd<|ah<|aa Z<|za (yx Z Z)<|z6<|zw Z (fun cs=>?_) (fun cs=>?_)
        ·refine ah<|ab Z<|z6<|zh<|zk (x:=.bool _) Z ?_
         rw[qw (fun h=>by have:=h.2.2.2.2.1;have:=uj f.blocks (j+1);omega)]
        ·refine zg<|zd<|ah<|za (zn jg Z Y9 (by decide) Z Z)<|za (zq (c:=.fro _ _) Yj Z ⟨_,.head⟩ Z)<|ap jz Z<|aa Z<|z6<|zj<|y8 (γ:=Nat) [1,3,9,10,12,107,108,109,144,145] (fun p=>[(146,.int .i64 p)]) (fun p=>[(i12,.cells 51 (bN f.blocks[j]))]) (fun p=>p≤f.blocks[j].phis.length∧∀q∈f.blocks[j].phis.take p,ui f q) (fun p=>f.blocks[j].phis.length - p) 0 aJ aE (⟨ql _,by simp⟩) ?_
         rintro p ⟨hp,hphi⟩
         refine ah<|aw Z Z<|z6<|zd<|zw Z (fun cp=>?_) (fun cp=>?_)
         ·have hp2:p<f.blocks[j].phis.length:=by omega
          obtain ⟨hq1,hq2⟩:=hb3 _ (qm hp2)
          have hl6:=hq1.lt
          have hl7:=hq2.lt
          refine zg<|zd<|zj<|ah<|za (q8 jz Z8 Z Z Z (qi (by omega)))<|ac Yo Z8 Z Z<|y5 (cs:=[.int .i64 0,.raw (.slice none 0 0),.raw (.slice none 0 0)]) Y6 Z Z<|fun i15=>zz Z8 Z Z Z Z Z Z .head Z<|z6<|zd<|zd<|yg (γ:=Unit) [1,3,9,10,12,15,107,108,109,144,145,146] (fun u=>[(169,.bool (!aT f f.blocks[j].phis[p].dst||(!decide ((f.blocks[j].phis[p].args.length:Int)=f.blocks[j].phis[p].from_.length)||decide ((f.blocks[j].phis[p].args.length:Int)<1))))]) (fun u=>[(i15,.cells 63 (d6 f.blocks[j].phis[p])),(i12,.cells 51 (bN f.blocks[j]))]) (fun u=>True) ?_ (fun _ _ h=>h) ?_
          ·refine aV<|za (zn jx Z wz (by decide) Z Z)<|za (zq (c:=.int _ _) j6 Z ⟨_,.head⟩ Z)<|aa Z<|zf (fJ _ _) Z<|aD Z<|ai Z<|zp (s:=155) Z (fun c7=>?_) (fun c7=>?_)
           ·refine z7 Z Z c7<|z7 Z Z c7<|z7 Z Z c7<|z7 Z Z c7<|z7 Z Z c7<|z7 Z Z c7<|z7 Z Z c7<|ar Z c7 Z<|ai Z<|z7 Z Z Z<|z7 Z Z Z<|z7 Z Z Z<|z7 Z Z Z<|ar Z Z Z<|z6 ?_
            exact ⟨(),kw,⟨jb (by simp_all[aT]<;>grind),trivial⟩,aE,trivial⟩
           ·refine z8 Z Z c7<|za (zn jx Z j5 (by decide) Z Z)<|z8 Z Z c7<|za (zq (c:=.fro _ _) j9 Z ⟨_,.head⟩ Z)<|z8 Z Z c7<|ap wx Z<|z8 Z Z c7<|za (zn jx Z j5 (by decide) Z Z)<|z8 Z Z c7<|za (zq (c:=.fro _ _) j9 Z ⟨_,.head⟩ Z)<|z8 Z Z c7<|ap wx Z<|z8 Z Z c7<|aL Z Z<|au Z c7 Z<|ai Z<|zp (s:=164) Z (fun c8=>?_) (fun c8=>?_)
            ·refine z7 Z Z c8<|z7 Z Z c8<|z7 Z Z c8<|z7 Z Z c8<|ar Z c8 Z<|z6 ?_
             exact ⟨(),kw,⟨jb (by simp_all[aT]<;>grind),trivial⟩,aE,trivial⟩
            ·refine z8 Z Z c8<|za (zn jx Z j5 (by decide) Z Z)<|z8 Z Z c8<|za (zq (c:=.fro _ _) j9 Z ⟨_,.head⟩ Z)<|z8 Z Z c8<|ap wx Z<|z8 Z Z c8<|aw Z Z<|au Z c8 Z<|z6 ?_
             exact ⟨(),kw,⟨jb (by simp_all[aT]<;>grind),trivial⟩,aE,trivial⟩
          ·rintro _ _
           refine zu Z (fun cq=>?_) (fun cq=>?_)
           ·refine ah<|ab Z<|z6<|zh<|zk (x:=.bool _) Z ?_
            rw[qw (fun h=>by have:=(h.2.2.2.2.2 _ (qm hk2)).1 _ (qm hp2);obtain ⟨h1,h2,h3,_⟩:=this;rw[h1,h2] at cq;simp only[Bool.not_true,Bool.false_or,decide_true,w1] at cq;omega)]
           ·have hq3:aT f f.blocks[j].phis[p].dst=true∧f.blocks[j].phis[p].args.length=f.blocks[j].phis[p].from_.length∧1≤f.blocks[j].phis[p].args.length:=by
             rcases Bool.or_eq_false_iff.1 cq with ⟨a1,a2⟩
             rcases Bool.or_eq_false_iff.1 a2 with ⟨a3,a4⟩
             exact ⟨by simpa using a1,by simp only[Bool.not_eq_false',w1] at a3;omega,by have:=of_decide_eq_false a4;omega⟩
            refine zg<|ah<|za (zn jx Z j5 (by decide) Z Z)<|za (zq (c:=.fro _ _) j9 Z ⟨_,.head⟩ Z)<|ap wx Z<|aa Z<|z6<|zj<|y8 (γ:=Nat) [1,3,9,10,12,15,107,108,109,144,145,146,172] (fun m=>[(173,.int .i64 m)]) (fun m=>[(i15,.cells 63 (d6 f.blocks[j].phis[p])),(i12,.cells 51 (bN f.blocks[j]))]) (fun m=>m≤f.blocks[j].phis[p].args.length∧(f.blocks[j].phis[p].args.take m).all (aT f)=true∧(f.blocks[j].phis[p].from_.take m).all (dV f)=true) (fun m=>f.blocks[j].phis[p].args.length - m) 0 aJ aE (⟨ql _,Z,Z⟩) ?_
            rintro m ⟨hm,ha1,ha2⟩
            refine ah<|aw Z Z<|z6<|zd<|zw Z (fun cm=>?_) (fun cm=>?_)
            ·have hm1:m<f.blocks[j].phis[p].args.length:=by omega
             have hm2:m<f.blocks[j].phis[p].from_.length:=by omega
             refine zg<|zd<|zj<|ah<|aa Z<|ao Z<|z6<|zd<|yg (γ:=Unit) [1,3,9,10,12,15,107,108,109,144,145,146,172,173] (fun u=>[(193,.bool (!aT f f.blocks[j].phis[p].args[m]||!dV f f.blocks[j].phis[p].from_[m]))]) (fun u=>[(i15,.cells 63 (d6 f.blocks[j].phis[p])),(i12,.cells 51 (bN f.blocks[j]))]) (fun u=>True) ?_ (fun _ _ h=>h) ?_
             ·refine aV<|za (zn jx Z j5 (by decide) Z Z)<|za (zq (c:=.fro _ _) j9 Z ⟨_,.head⟩ Z)<|aa Z<|za (q8 wx wz Z Z Z (qi (by omega)))<|ay j6 Z<|aa Z<|zf (fJ _ _) Z<|aD Z<|ai Z<|zp (s:=184) Z (fun c9=>?_) (fun c9=>?_)
              ·refine z7 Z Z c9<|z7 Z Z c9<|z7 Z Z c9<|z7 Z Z c9<|z7 Z Z c9<|z7 Z Z c9<|z7 Z Z c9<|z7 Z Z c9<|ar Z c9 Z<|z6 ?_
               exact ⟨(),⟨rfl,rfl,rfl,rfl,rfl,rfl,rfl,rfl,rfl,rfl,rfl,rfl,rfl,rfl,trivial⟩,⟨jb (by simp_all[aT,dV]<;>grind),trivial⟩,aE,trivial⟩
              ·refine z8 Z Z c9<|za (zn jx Z j5 (by decide) Z Z)<|z8 Z Z c9<|za (zq (c:=.fro _ _) j9 Z ⟨_,.head⟩ Z)<|z8 Z Z c9<|aa Z<|z8 Z Z c9<|za (q8 wx wz Z Z Z (qi (by omega)))<|z8 Z Z c9<|ay j6 Z<|z8 Z Z c9<|aa Z<|z8 Z Z c9<|zf (fJ _ _) Z<|z8 Z Z c9<|aD Z<|au Z c9 Z<|z6 ?_
               exact ⟨(),⟨rfl,rfl,rfl,rfl,rfl,rfl,rfl,rfl,rfl,rfl,rfl,rfl,rfl,rfl,trivial⟩,⟨jb (by simp_all[aT,dV]<;>grind),trivial⟩,aE,trivial⟩
             ·rintro _ _
              refine zu Z (fun cw=>?_) (fun cw=>?_)
              ·refine ah<|ab Z<|z6<|zh<|zk (x:=.bool _) Z ?_
               rw[qw (fun h=>by have:=(h.2.2.2.2.2 _ (qm hk2)).1 _ (qm hp2);obtain ⟨_,_,_,h4,h5⟩:=this;have h6:=List.all_eq_true.1 h4 _ (qm hm1);have h7:=List.all_eq_true.1 h5 _ (qm hm2);rw[h6,h7] at cw;cases cw)]
              ·refine zg<|aV<|aC Z Z<|aa Z<|z6 ?_
               exact ⟨m+1,⟨rfl,rfl,rfl,rfl,rfl,rfl,rfl,rfl,rfl,rfl,rfl,rfl,rfl,trivial⟩,aJ,aE,⟨hm1,bt hm1 ha1 (by simp at cw;exact cw.1),bt hm2 ha2 (by simp at cw;exact cw.2)⟩,by omega⟩
            ·rw[jI (by omega)] at ha1
             rw[jI (by omega)] at ha2
             refine y7<|aV<|aC Z Z<|aa Z<|z6 ?_
             exact ⟨p+1,o5,aJ,⟨_,(.drop (.refl _)),rfl⟩,⟨hp2,ee hp2 hphi ⟨hq3.1,hq3.2.1,hq3.2.2,ha1,ha2⟩⟩,by omega⟩
         ·rw[jI (by omega)] at hphi
          refine y7<|zd<|ah<|za (zn jg Z Zd (by decide) Z Z)<|za (zq (c:=.fro _ _) Zs Z ⟨_,.head⟩ Z)<|ap jt Z<|aa Z<|z6<|zj<|y8 (γ:=Nat) [1,3,9,10,12,107,108,109,197,198] (fun p=>[(199,.int .i64 p)]) (fun p=>[(i12,.cells 51 (bN f.blocks[j]))]) (fun p=>p≤f.blocks[j].insts.length∧∀q∈f.blocks[j].insts.take p,nS f q) (fun p=>f.blocks[j].insts.length - p) 0 aJ aE (⟨ql _,by simp⟩) ?_
          rintro p ⟨hp,hins⟩
          refine ah<|aw Z Z<|z6<|zd<|zw Z (fun cp=>?_) (fun cp=>?_)
          ·have hp2:p<f.blocks[j].insts.length:=by omega
           have hq1:=hb4 _ (qm hp2)
           have hl6:=hq1.lt
           refine zg<|zd<|zj<|ah<|za (q8 jt jk Z Z Z (qi (by omega)))<|ac Zn jk Z Z<|y5 (cs:=[.int .i64 0,.int .i64 0,.raw (.slice none 0 0),.int .i64 0]) Z5 Z Z<|fun i18=>zz jk Z Z Z Z Z Z .head Z<|z6<|zd<|zd<|yg (γ:=Unit) [1,3,9,10,12,18,107,108,109,197,198,199] (fun u=>[(210,.bool (decide (f.blocks[j].insts[p].op<0)||decide (26<f.blocks[j].insts[p].op)))]) (fun u=>[(i18,.cells 54 (be f.blocks[j].insts[p])),(i12,.cells 51 (bN f.blocks[j]))]) (fun u=>True) ?_ (fun _ _ h=>h) ?_
           ·refine aV<|za (zn wy Z jv (by decide) Z Z)<|za (zq (c:=.int _ _) jy Z ⟨_,.head⟩ Z)<|aw Z Z<|ai Z<|zp (s:=206) Z (fun c10=>?_) (fun c10=>?_)
            ·refine z7 Z Z c10<|z7 Z Z c10<|z7 Z Z c10<|ar Z c10 Z<|z6 ?_
             exact ⟨(),kw,⟨jb (by simp_all<;>grind),trivial⟩,aE,trivial⟩
            ·refine z8 Z Z c10<|za (zn wy Z jv (by decide) Z Z)<|z8 Z Z c10<|za (zq (c:=.int _ _) jy Z ⟨_,.head⟩ Z)<|z8 Z Z c10<|za (yx Z Z)<|au Z c10 Z<|z6 ?_
             exact ⟨(),kw,⟨jb (by simp_all<;>grind),trivial⟩,aE,trivial⟩
           ·rintro _ _
            refine zu Z (fun cq=>?_) (fun cq=>?_)
            ·refine ah<|ab Z<|z6<|zh<|zk (x:=.bool _) Z ?_
             rw[qw (fun h=>by have:=(h.2.2.2.2.2 _ (qm hk2)).2.1 _ (qm hp2);obtain ⟨h1,h2,_⟩:=this;simp at cq;omega)]
            ·have hop:0≤f.blocks[j].insts[p].op∧f.blocks[j].insts[p].op≤26:=by simp at cq;omega
             have hrow:fX[f.blocks[j].insts[p].op.toNat]?=some (bS f.blocks[j].insts[p].op):=by unfold bS;rw[if_pos hop.1,qi (show _<27 by omega)];rfl
             refine zg<|zd<|yg (γ:=Nat) [1,3,9,10,12,18,107,108,109,197,198,199] (fun i=>[(19,.po i 0)]) (fun i=>[(i18,.cells 54 (be f.blocks[j].insts[p])),(i,.cells 154 (o8 (bS f.blocks[j].insts[p].op))),(i12,.cells 51 (bN f.blocks[j]))]) (fun i=>True) ?_ (fun _ _ h=>h) ?_
             ·refine zt (fun j=>Nat.beq j 6) (by kernel_rfl) Z (zm (.r (.rest _)))<|aj 1 Z (zn wy Z jv (by decide) Z Z)<|aj 2 Z (zq (c:=.int _ _) jy Z ⟨_,.head⟩ Z)<|yn (i:=0) (j:=5) Z Z (by kernel_rfl) ?_ ?_
              ·refine zf (kd) Z<|z6<|aj 3 Z (q8 (j:=(f.blocks[j].insts[p].op.toNat)) underlying155 Yc Z Z (Int.toNat_of_nonneg hop.1).symm hrow)<|aj 4 Z (yt isAgg154 Yc Z Z)<|aY 5 Z<|y5 (cs:=[.str ⟨#[]⟩,.str ⟨#[]⟩,.str ⟨#[]⟩]) Yu Z Z<|fun i19=>z6<|ym<|yk (i:=6) Z (by kernel_rfl) (by kernel_rfl)<|zz Yc Z Z Z Z Z Z .t1 Z<|z6<|yq (by kernel_rfl) ?_
               exact ⟨i19,kw,aJ,aE,trivial⟩
              ·refine y5 (cs:=[.str ⟨#[]⟩,.str ⟨#[]⟩,.str ⟨#[]⟩]) Yu Z Z<|fun i19=>z6<|aY 0 Z<|zf (kd) Z<|z6<|aj 3 Z (q8 (j:=(f.blocks[j].insts[p].op.toNat)) underlying155 Yc Z Z (Int.toNat_of_nonneg hop.1).symm hrow)<|aj 4 Z (yt isAgg154 Yc Z Z)<|ym<|yk (i:=6) Z (by kernel_rfl) (by kernel_rfl)<|zz Yc Z Z Z Z Z Z .t1 Z<|z6<|yq (by kernel_rfl) ?_
               exact ⟨i19,kw,aJ,aE,trivial⟩
             ·rintro i19 _
              refine zd<|zd<|yg (γ:=Unit) [1,3,9,10,12,18,107,108,109,197,198,199] (fun u=>[(258,.bool (lW f f.blocks[j].insts[p]))]) (fun u=>[(i18,.cells 54 (be f.blocks[j].insts[p])),(i19,.cells 154 (o8 (bS f.blocks[j].insts[p].op))),(i12,.cells 51 (bN f.blocks[j]))]) (fun u=>True) ?_ (fun _ _ h=>h) ?_
              ·refine aV<|za (zn wy Z j5 (by decide) Z Z)<|za (zq (c:=.fro _ _) j9 Z ⟨_,.head⟩ Z)<|ap wx Z<|za (zn Zt Z Zu (by decide) Z Z)<|za (zq (c:=.str _) Y0 Z ⟨_,.t1⟩ Z)<|za (Gv.lenT Zi Z)<|aL Z Z<|ai Z<|zp (s:=223) Z (fun c11=>?_) (fun c11=>?_)
               ·refine z7 Z Z c11<|z7 Z Z c11<|z7 Z Z c11<|z7 Z Z c11<|z7 Z Z c11<|z7 Z Z c11<|z7 Z Z c11<|ar Z c11 Z<|ai Z<|z7 Z Z Z<|z7 Z Z Z<|z7 Z Z Z<|z7 Z Z Z<|zi Z Z<|zi Z Z<|zi Z Z<|zi Z Z<|zi Z Z<|z7 Z Z Z<|ar Z Z Z<|ai Z<|z7 Z Z Z<|z7 Z Z Z<|z7 Z Z Z<|z7 Z Z Z<|zi Z Z<|zi Z Z<|zi Z Z<|z7 Z Z Z<|z7 Z Z Z<|zi Z Z<|zi Z Z<|zi Z Z<|z7 Z Z Z<|ar Z Z Z<|z6 ?_
                exact ⟨(),kw,⟨jb (by simp_all[lW,iO,aT]<;>grind),trivial⟩,aE,trivial⟩
               ·refine z8 Z Z c11<|za (zn Zt Z Zu (by decide) Z Z)<|z8 Z Z c11<|za (zq (c:=.str _) Y0 Z ⟨_,.t1⟩ Z)<|z8 Z Z c11<|za (Gv.eqlT Z Z)<|z8 Z Z c11<|za (zn wy Z wz (by decide) Z Z)<|z8 Z Z c11<|za (zq (c:=.int _ _) j6 Z ⟨_,.head⟩ Z)<|z8 Z Z c11<|ak Z Z<|z8 Z Z c11<|za (Gv.neqB Zy Z Z)<|au Z c11 Z<|ai Z<|zp (s:=232) Z (fun c12=>?_) (fun c12=>?_)
                ·refine z7 Z Z c12<|z7 Z Z c12<|z7 Z Z c12<|z7 Z Z c12<|zi Z Z<|zi Z Z<|zi Z Z<|zi Z Z<|zi Z Z<|z7 Z Z c12<|ar Z c12 Z<|ai Z<|z7 Z Z Z<|z7 Z Z Z<|z7 Z Z Z<|z7 Z Z Z<|zi Z Z<|zi Z Z<|zi Z Z<|z7 Z Z Z<|z7 Z Z Z<|zi Z Z<|zi Z Z<|zi Z Z<|z7 Z Z Z<|ar Z Z Z<|z6 ?_
                 exact ⟨(),kw,⟨jb (by simp_all[lW,iO,aT]<;>grind),trivial⟩,aE,trivial⟩
                ·refine z8 Z Z c12<|za (zn wy Z wz (by decide) Z Z)<|z8 Z Z c12<|za (zq (c:=.int _ _) j6 Z ⟨_,.head⟩ Z)<|z8 Z Z c12<|aL Z Z<|z8 Z Z c12<|ai Z<|zp (s:=236) Z (fun c13=>?_) (fun c13=>?_)
                 ·refine z8 Z Z c13<|za (zn wy Z wz (by decide) Z Z)<|z8 Z Z c13<|za (zq (c:=.int _ _) j6 Z ⟨_,.head⟩ Z)<|z8 Z Z c13<|aa Z<|z8 Z Z c13<|zf (fJ _ _) Z<|z8 Z Z c13<|aD Z<|z8 Z Z c12<|ar Z c13 Z<|au Z c12 Z<|ai Z<|zp (s:=244) Z (fun c14=>?_) (fun c14=>?_)
                  ·refine z7 Z Z c14<|z7 Z Z c14<|z7 Z Z c14<|z7 Z Z c14<|zi Z Z<|zi Z Z<|zi Z Z<|z7 Z Z c14<|z7 Z Z c14<|zi Z Z<|zi Z Z<|zi Z Z<|z7 Z Z c14<|ar Z c14 Z<|z6 ?_
                   exact ⟨(),kw,⟨jb (by simp_all[lW,iO,aT]<;>grind),trivial⟩,aE,trivial⟩
                  ·refine z8 Z Z c14<|za (zn wy Z Zo (by decide) Z Z)<|z8 Z Z c14<|za (zq (c:=.int _ _) Zz Z ⟨_,.head⟩ Z)<|z8 Z Z c14<|aL Z Z<|z8 Z Z c14<|ai Z<|zp (s:=248) Z (fun c15=>?_) (fun c15=>?_)
                   ·refine z8 Z Z c15<|za (zn Zt Z Zu (by decide) Z Z)<|z8 Z Z c15<|za (zq (c:=.str _) Y0 Z ⟨_,.t1⟩ Z)<|z8 Z Z c15<|za (Gv.neqT Z Z)<|z8 Z Z c14<|ar Z c15 Z<|z8 Z Z c14<|ai Z<|zp (s:=253) Z (fun c16=>?_) (fun c16=>?_)
                    ·refine z8 Z Z c16<|za (zn Zt Z Zu (by decide) Z Z)<|z8 Z Z c16<|za (zq (c:=.str _) Y0 Z ⟨_,.t1⟩ Z)<|z8 Z Z c16<|za (Gv.neqT Z Z)<|z8 Z Z c14<|ar Z c16 Z<|au Z c14 Z<|z6 ?_
                     exact ⟨(),kw,⟨jb (by simp_all[lW,iO,aT]<;>grind),trivial⟩,aE,trivial⟩
                    ·refine z7 Z Z c16<|z7 Z Z c16<|z7 Z Z c16<|z8 Z Z c14<|au Z c16 Z<|au Z c14 Z<|z6 ?_
                     exact ⟨(),kw,⟨jb (by simp_all[lW,iO,aT]<;>grind),trivial⟩,aE,trivial⟩
                   ·refine z7 Z Z c15<|z7 Z Z c15<|z7 Z Z c15<|z8 Z Z c14<|au Z c15 Z<|z8 Z Z c14<|ai Z<|z7 Z Z Z<|z7 Z Z Z<|z7 Z Z Z<|z8 Z Z c14<|au Z Z Z<|au Z c14 Z<|z6 ?_
                    exact ⟨(),kw,⟨jb (by simp_all[lW,iO,aT]<;>grind),trivial⟩,aE,trivial⟩
                 ·refine z7 Z Z c13<|z7 Z Z c13<|z7 Z Z c13<|z7 Z Z c13<|z7 Z Z c13<|z8 Z Z c12<|au Z c13 Z<|au Z c12 Z<|ai Z<|z8 Z Z Z<|za (zn wy Z Zo (by decide) Z Z)<|z8 Z Z Z<|za (zq (c:=.int _ _) Zz Z ⟨_,.head⟩ Z)<|z8 Z Z Z<|aL Z Z<|z8 Z Z Z<|ai Z<|zp (s:=248) Z (fun c17=>?_) (fun c17=>?_)
                  ·refine z8 Z Z c17<|za (zn Zt Z Zu (by decide) Z Z)<|z8 Z Z c17<|za (zq (c:=.str _) Y0 Z ⟨_,.t1⟩ Z)<|z8 Z Z c17<|za (Gv.neqT Z Z)<|z8 Z Z Z<|ar Z c17 Z<|z8 Z Z Z<|ai Z<|zp (s:=253) Z (fun c18=>?_) (fun c18=>?_)
                   ·refine z8 Z Z c18<|za (zn Zt Z Zu (by decide) Z Z)<|z8 Z Z c18<|za (zq (c:=.str _) Y0 Z ⟨_,.t1⟩ Z)<|z8 Z Z c18<|za (Gv.neqT Z Z)<|z8 Z Z Z<|ar Z c18 Z<|au Z Z Z<|z6 ?_
                    exact ⟨(),kw,⟨jb (by simp_all[lW,iO,aT]<;>grind),trivial⟩,aE,trivial⟩
                   ·refine z7 Z Z c18<|z7 Z Z c18<|z7 Z Z c18<|z8 Z Z Z<|au Z c18 Z<|au Z Z Z<|z6 ?_
                    exact ⟨(),kw,⟨jb (by simp_all[lW,iO,aT]<;>grind),trivial⟩,aE,trivial⟩
                  ·refine z7 Z Z c17<|z7 Z Z c17<|z7 Z Z c17<|z8 Z Z Z<|au Z c17 Z<|z8 Z Z Z<|ai Z<|z7 Z Z Z<|z7 Z Z Z<|z7 Z Z Z<|z8 Z Z Z<|au Z Z Z<|au Z Z Z<|z6 ?_
                   exact ⟨(),kw,⟨jb (by simp_all[lW,iO,aT]<;>grind),trivial⟩,aE,trivial⟩
              ·rintro _ _
               refine zu Z (fun cw=>?_) (fun cw=>?_)
               ·refine ah<|ab Z<|z6<|zh<|zk (x:=.bool _) Z ?_
                rw[qw (fun h=>by have:=(h.2.2.2.2.2 _ (qm hk2)).2.1 _ (qm hp2);rw[this.2.2.1] at cw;cases cw)]
               ·refine zg<|ah<|za (zn wy Z j5 (by decide) Z Z)<|za (zq (c:=.fro _ _) j9 Z ⟨_,.head⟩ Z)<|ap wx Z<|aa Z<|z6<|zj<|y8 (γ:=Nat) [1,3,9,10,12,107,108,109,197,198,199,260,261] (fun m=>[(262,.int .i64 m)]) (fun m=>[(i18,.cells 54 (be f.blocks[j].insts[p])),(i12,.cells 51 (bN f.blocks[j]))]) (fun m=>m≤f.blocks[j].insts[p].args.length∧(f.blocks[j].insts[p].args.take m).all (aT f)=true) (fun m=>f.blocks[j].insts[p].args.length - m) 0 aJ ⟨_,(.keep (.drop (.refl _))),Z⟩ (⟨ql _,Z⟩) ?_
                rintro m ⟨hm,ha1⟩
                refine ah<|aw Z Z<|z6<|zd<|zw Z (fun cm=>?_) (fun cm=>?_)
                ·have hm1:m<f.blocks[j].insts[p].args.length:=by omega
                 refine zg<|zd<|zj<|ah<|za (q8 wx wz Z Z Z (qi (by omega)))<|ay j6 Z<|ao Z<|z6<|ah<|aa Z<|aa Z<|zf (fJ _ _) Z<|aD Z<|z6<|zu Z (fun ca=>?_) (fun ca=>?_)
                 ·have ca:aT f f.blocks[j].insts[p].args[m]=false:=by simp[aT] at ca ⊢;omega
                  refine ah<|ab Z<|z6<|zh<|zk (x:=.bool _) Z ?_
                  rw[qw (fun h=>by have:=(h.2.2.2.2.2 _ (qm hk2)).2.1 _ (qm hp2);have h6:=List.all_eq_true.1 this.2.2.2 _ (qm hm1);rw[ca] at h6;cases h6)]
                 ·have ca:aT f f.blocks[j].insts[p].args[m]=true:=by simp[aT] at ca ⊢;omega
                  refine zg<|aV<|aC Z Z<|aa Z<|z6 ?_
                  exact ⟨m+1,⟨rfl,rfl,rfl,rfl,rfl,rfl,rfl,rfl,rfl,rfl,rfl,rfl,rfl,trivial⟩,aJ,aE,⟨hm1,bt hm1 ha1 ca⟩,by omega⟩
                ·rw[jI (by omega)] at ha1
                 refine y7<|aV<|aC Z Z<|aa Z<|z6 ?_
                 exact ⟨p+1,o5,aJ,⟨_,(.drop (.refl _)),rfl⟩,⟨hp2,ee hp2 hins ⟨hop.1,hop.2,cw,ha1⟩⟩,by omega⟩
          ·rw[jI (by omega)] at hins
           refine y7<|ah<|za (zn jg Z Zm (by decide) Z Z)<|za (Gv.loadAC (l:=[_,_,_,_]) isAgg49 Zm Z ⟨_,.head⟩ Z Z)<|y5 (cs:=[.int .i64 0,.int .i64 0,.int .i64 0,.int .i64 0]) zeroValue49 Z Z<|fun i22=>zz Zm Z Z Z Z Z Z .head Z<|z6<|ah<|ab Z<|z6<|zd<|ah<|za (zn j8 Z Zv (by decide) Z Z)<|za (zq (c:=.int _ _) Y3 Z ⟨_,.head⟩ Z)<|z6<|yg (γ:=Unit) [1,3,9,10,107,108,109] (fun u=>[(23,.bool (bv f f.blocks[j].term))]) (fun u=>[]) (fun u=>True) ?_ (fun _ _ h=>h) ?_
           ·refine zj<|ah<|ak Z Z<|ab Z<|z6<|zu Z (fun c19=>?_) (fun c19=>?_)
            ·refine aV<|za (zn j8 Z Z7 (by decide) Z Z)<|za (Gv.idxAO (j:=0) jw wz Z Z Z (by decide) Z)<|za (zq (c:=.int _ _) j6 Z ⟨_,.head⟩ Z)<|aa Z<|zf (fJ _ _) Z<|ai Z<|zp (s:=283) Z (fun c20=>?_) (fun c20=>?_)
             ·refine z8 Z Z c20<|za (zn j8 Z Z7 (by decide) Z Z)<|z8 Z Z c20<|za (Gv.idxAO (j:=1) jw wz Z Z Z (by decide) Z)<|z8 Z Z c20<|za (zq (c:=.int _ _) j6 Z ⟨_,.head⟩ Z)<|z8 Z Z c20<|ak Z Z<|ar Z c20 Z<|ai Z<|zp (s:=289) Z (fun c21=>?_) (fun c21=>?_)
              ·refine z8 Z Z c21<|za (zn j8 Z wz (by decide) Z Z)<|z8 Z Z c21<|za (zq (c:=.int _ _) j6 Z ⟨_,.head⟩ Z)<|z8 Z Z c21<|ak Z Z<|ar Z c21 Z<|ab Z<|z6 ?_
               exact ⟨(),kA,⟨jb (by simp_all[bv,aT,dV]<;>grind),trivial⟩,⟨_,(.drop (.drop (.refl _))),rfl⟩,trivial⟩
              ·refine z7 Z Z c21<|z7 Z Z c21<|z7 Z Z c21<|au Z c21 Z<|ab Z<|z6 ?_
               exact ⟨(),kA,⟨jb (by simp_all[bv,aT,dV]<;>grind),trivial⟩,⟨_,(.drop (.drop (.refl _))),rfl⟩,trivial⟩
             ·refine z7 Z Z c20<|z7 Z Z c20<|z7 Z Z c20<|z7 Z Z c20<|au Z c20 Z<|ai Z<|z7 Z Z Z<|z7 Z Z Z<|z7 Z Z Z<|au Z Z Z<|ab Z<|z6 ?_
              exact ⟨(),kA,⟨jb (by simp_all[bv,aT,dV]<;>grind),trivial⟩,⟨_,(.drop (.drop (.refl _))),rfl⟩,trivial⟩
            ·refine ah<|ak Z Z<|ab Z<|z6<|zu Z (fun c22=>?_) (fun c22=>?_)
             ·refine aV<|za (zn j8 Z wz (by decide) Z Z)<|za (zq (c:=.int _ _) j6 Z ⟨_,.head⟩ Z)<|aa Z<|zf (fJ _ _) Z<|ai Z<|zp (s:=300) Z (fun c23=>?_) (fun c23=>?_)
              ·refine z8 Z Z c23<|za (zn j8 Z Z7 (by decide) Z Z)<|z8 Z Z c23<|za (Gv.idxAO (j:=0) jw wz Z Z Z (by decide) Z)<|z8 Z Z c23<|za (zq (c:=.int _ _) j6 Z ⟨_,.head⟩ Z)<|z8 Z Z c23<|aa Z<|z8 Z Z c23<|zf (fJ _ _) Z<|ar Z c23 Z<|ai Z<|zp (s:=307) Z (fun c24=>?_) (fun c24=>?_)
               ·refine z8 Z Z c24<|za (zn j8 Z Z7 (by decide) Z Z)<|z8 Z Z c24<|za (Gv.idxAO (j:=1) jw wz Z Z Z (by decide) Z)<|z8 Z Z c24<|za (zq (c:=.int _ _) j6 Z ⟨_,.head⟩ Z)<|z8 Z Z c24<|aa Z<|z8 Z Z c24<|zf (fJ _ _) Z<|ar Z c24 Z<|ab Z<|z6 ?_
                exact ⟨(),kA,⟨jb (by simp_all[bv,aT,dV]<;>grind),trivial⟩,⟨_,(.drop (.drop (.refl _))),rfl⟩,trivial⟩
               ·refine z7 Z Z c24<|z7 Z Z c24<|z7 Z Z c24<|z7 Z Z c24<|z7 Z Z c24<|au Z c24 Z<|ab Z<|z6 ?_
                exact ⟨(),kA,⟨jb (by simp_all[bv,aT,dV]<;>grind),trivial⟩,⟨_,(.drop (.drop (.refl _))),rfl⟩,trivial⟩
              ·refine z7 Z Z c23<|z7 Z Z c23<|z7 Z Z c23<|z7 Z Z c23<|z7 Z Z c23<|au Z c23 Z<|ai Z<|z7 Z Z Z<|z7 Z Z Z<|z7 Z Z Z<|z7 Z Z Z<|z7 Z Z Z<|au Z Z Z<|ab Z<|z6 ?_
               exact ⟨(),kA,⟨jb (by simp_all[bv,aT,dV]<;>grind),trivial⟩,⟨_,(.drop (.drop (.refl _))),rfl⟩,trivial⟩
             ·refine ah<|ak Z Z<|ab Z<|z6<|zu Z (fun c25=>?_) (fun c25=>?_)
              ·refine aV<|za (zn j8 Z wz (by decide) Z Z)<|za (zq (c:=.int _ _) j6 Z ⟨_,.head⟩ Z)<|aa Z<|zf (fJ _ _) Z<|ai Z<|zp (s:=320) Z (fun c26=>?_) (fun c26=>?_)
               ·refine z8 Z Z c26<|za (zn j8 Z Z7 (by decide) Z Z)<|z8 Z Z c26<|za (Gv.loadAC (l:=[_,_]) isAgg47 Z7 Z ⟨_,.head⟩ Z Z)<|z8 Z Z c26<|za (Gv.buildA (cps:=[]) (rs:=[.int .i64 0,.int .i64 0]) D0 Z Z Z)<|z8 Z Z c26<|za (Gv.eqlP (xs:=[.int _ _,.int _ _]) (ys:=[.int _ _,.int _ _]) (by kernel_rfl) Z Z (fun w=>sv _ _ _ _ w))<|ar Z c26 Z<|ab Z<|z6 ?_
                exact ⟨(),kA,⟨jb (by simp_all[bv,aT,dV]<;>grind),trivial⟩,⟨_,(.drop (.drop (.refl _))),rfl⟩,trivial⟩
               ·refine z7 Z Z c26<|z7 Z Z c26<|z7 Z Z c26<|z7 Z Z c26<|au Z c26 Z<|ab Z<|z6 ?_
                exact ⟨(),kA,⟨jb (by simp_all[bv,aT,dV]<;>grind),trivial⟩,⟨_,(.drop (.drop (.refl _))),rfl⟩,trivial⟩
              ·refine zg ?_
               exact ⟨(),kA,⟨jb (by simp_all[bv,aT,dV]<;>grind),trivial⟩,⟨_,(.drop (.drop (.refl _))),rfl⟩,trivial⟩
           ·rintro _ _
            refine ah<|ai Z<|aD Z<|z6<|zu Z (fun ct=>?_) (fun ct=>?_)
            ·refine ah<|ab Z<|z6<|zh<|zk (x:=.bool _) Z ?_
             rw[qw (fun h=>by have:=(h.2.2.2.2.2 _ (qm hk2)).2.2;rw[this] at ct;cases ct)]
            ·have ct:bv f f.blocks[j].term=true:=by simpa using ct
             refine zg<|aV<|aC Z Z<|aa Z<|z6 ?_
             exact ⟨j+1,wi,⟨rfl,(congrArg (AV.int .i64) (by rw[hs1];omega)),trivial⟩,aE,⟨hk2,fun i h hi=>by rcases Nat.lt_or_ge i j with h3|h3;exact hnam i h h3;obtain rfl:i=j:=(by omega);exact ⟨by simpa using cv,hno⟩,by omega,ee hk2 hblk ⟨hphi,hins,ct⟩⟩,by omega⟩
     ·have hkn:k=f.blocks.length:=by omega
      subst hkn
      rw[qn] at hsum hblk
      refine y7<|ah<|ab Z<|z6<|zh<|zk (x:=.bool _) Z ?_
      rw[qv (show bz f from ⟨c1,hpars,hvars,fun i h=>hnam i h h,hsum,hblk⟩)]
end Go.Proofs.YtdilpodccjlkgaaGreatDoor
namespace Go.Proofs.YtdilpodccjlkgaaGreatDoor
open Go.Proofs.Tryz
open Go.Proofs Go.Lib Go.Shelf Go.RowKit
set_option maxRecDepth 20000
variable {E:World}
def sx (b:aN):Prop:=b.name.size≤1000∧b.phis.length≤1000∧b.insts.length≤1000∧(∀p∈b.phis,p.args.length≤1000∧p.from_.length≤1000)∧∀x∈b.insts,x.args.length≤1000
def small (f:ad):Prop:=f.vars.length≤1000∧f.params.length≤1000∧f.blocks.length≤1000∧(∀v∈f.vars,v.name.size≤1000)∧∀b∈f.blocks,sx b
theorem small.ok {f:ad} (h:small f):qK f:=by
 obtain ⟨h1,h2,h3,h4,h5⟩:=h
 refine ⟨by unfold nG;omega,by unfold nG;omega,by unfold nG;omega,fun b hb=>?_⟩
 obtain ⟨g1,g2,g3,g4,g5⟩:=h5 b hb
 exact ⟨by unfold nG;omega,by unfold nG;omega,fun p hp=>⟨by have:=g4 p hp;unfold nG;omega,by have:=g4 p hp;unfold nG;omega⟩,fun x hx=>by have:=g5 x hx;unfold nG;omega⟩
theorem small.names {f:ad} (h:small f):lw f:=⟨fun v hv=>by have:=h.2.2.2.1 v hv;omega,fun b hb=>by have:=(h.2.2.2.2 b hb).1;omega⟩
theorem sy {α:Type} {enc:α→List AV} (h:∀x,(enc x).all AV.cell=true) (xs:List α):(xs.map enc).flatten.all AV.cell=true:=by
 induction xs with
 |nil=>rfl
 |cons x xs ih=>simp only[List.map_cons,List.flatten_cons,List.all_append,h,ih,Bool.and_self]
theorem uk (xs:List Int) (hl:xs.length≤1000):aU prog E 120 [.fro 1 (xs.map cE)] [] (fun x O'=>∃i:Nat,x=.own i xs.length∧Left O' [(i,.grow 1 3 (xs.map cE).flatten)]∧True):=by
 refine zo func120 Z (by decide) Z<|ah<|za (iR Z)<|z6<|zd<|ah<|bb Z<|ax.isNil wx Z Z (fun hnil=>?_) ?_
 ·have hx:xs=[]:=by simpa using hnil
  subst hx
  refine z6<|yl Z Z<|ah<|za (iR Z)<|z6<|zh ?_
  repeat (first|refine f9 ?_|refine eO ?_)
  refine pw (s:=2) (k:=1) (T:=3) Z (fun i=>?_)
  refine zk (x:=.own _ _) Z ?_
  exact ⟨i,rfl,.refl _,trivial⟩
 ·refine z6<|ye Z Z<|zg<|ah<|ax.buildSlice0 (k:=1) wx type3<|fun i5=>bb Z<|yj (k:=1) wx type3 Z Z Z Z Z (fun _=>.head) (by simp) (by decide) (sy (fun _=>Z) xs) (by show (_+_)*8≤_;simp<;>omega) (by simp<;>omega)<|fun i7=>za (lj Z)<|z6<|zh<|zk (x:=.own _ _) Z ?_
  exact ⟨i7,(by simp),⟨_,.refl _,rfl⟩,trivial⟩
theorem sA (xs:List Int) (hl:xs.length≤1000):aI prog E 120 [.fro 1 (xs.map cE)] (.fro 1 (xs.map cE)):=(uk xs hl).frozen (by simp[cE]) (by decide) (by simp)
end Go.Proofs.YtdilpodccjlkgaaGreatDoor
namespace Go.Proofs.YtdilpodccjlkgaaGreatDoor
open Go.Proofs.Tryz
open Go.Proofs Go.Lib Go.Shelf Go.RowKit
set_option maxRecDepth 20000
variable {E:World}
end Go.Proofs.YtdilpodccjlkgaaGreatDoor
namespace Go.Proofs.YtdilpodccjlkgaaGreatDoor
open Go.Proofs.Tryz
open Go.Proofs Go.Lib Go.Shelf Go.RowKit
set_option maxRecDepth 20000
variable {E:World}
def wV (l:List se):Nat:=(l.map fun v=>v.name.size).sum
def wP (l:List eJ):Nat:=(l.map fun p=>p.args.length+p.from_.length).sum
def wX (l:List aB):Nat:=(l.map fun x=>x.args.length).sum
def wB (b:aN):Nat:=b.name.size+10*(b.phis.length+b.insts.length)+wP b.phis+wX b.insts
def qS (l:List aN):Nat:=(l.map wB).sum
theorem Br {l:List se} {k:Nat} (h:k<l.length):wV (l.take (k+1))=wV (l.take k)+l[k].name.size:=by
 unfold wV;rw[qj h,qt,List.sum_append];simp only[List.map_cons,List.map_nil,List.sum_cons,List.sum_nil,Nat.add_zero]
theorem Bs {l:List eJ} {k:Nat} (h:k<l.length):wP (l.take (k+1))=wP (l.take k)+(l[k].args.length+l[k].from_.length):=by
 unfold wP;rw[qj h,qt,List.sum_append];simp only[List.map_cons,List.map_nil,List.sum_cons,List.sum_nil,Nat.add_zero]
theorem Bt {l:List aB} {k:Nat} (h:k<l.length):wX (l.take (k+1))=wX (l.take k)+l[k].args.length:=by
 unfold wX;rw[qj h,qt,List.sum_append];simp only[List.map_cons,List.map_nil,List.sum_cons,List.sum_nil,Nat.add_zero]
theorem sB {l:List aN} {k:Nat} (h:k<l.length):qS (l.take (k+1))=qS (l.take k)+wB l[k]:=by
 unfold qS;rw[qj h,qt,List.sum_append];simp only[List.map_cons,List.map_nil,List.sum_cons,List.sum_nil,Nat.add_zero]
def vB (b:aN):Prop:=b.name.size≤400∧b.phis.length≤400∧b.insts.length≤400∧(∀p∈b.phis,p.args.length≤400∧p.from_.length≤400)∧∀x∈b.insts,x.args.length≤400
def jJ (f:ad):Prop:=f.vars.length≤100∧f.blocks.length≤40∧f.params.length≤20∧(∀v∈f.vars,v.name.size≤400)∧(∀b∈f.blocks,vB b)∧(f.blocks≠[]→wV f.vars+qS f.blocks≤4000)
theorem jJ.small {f:ad} (h:jJ f):small f:=by
 obtain ⟨h1,h2,h3,h4,h5,_⟩:=h
 refine ⟨by omega,by omega,by omega,fun v hv=>by have:=h4 v hv;omega,fun b hb=>?_⟩
 obtain ⟨g1,g2,g3,g4,g5⟩:=h5 b hb
 exact ⟨by omega,by omega,by omega,fun p hp=>by have:=g4 p hp;omega,fun x hx=>by have:=g5 x hx;omega⟩
def wL {α:Type} (l:List α):Prop:=l.length≤9223372036854775807
def D2 (p:eJ):Prop:=wL p.args∧wL p.from_
def D3 (b:aN):Prop:=wL b.phis∧wL b.insts∧(∀p∈b.phis,D2 p)∧(∀x∈b.insts,wL x.args)
def pL (f:ad):Prop:=wL f.vars∧wL f.params∧wL f.blocks∧∀b∈f.blocks,D3 b
theorem wL.lt {α:Type} {l:List α} (h:wL l):l.length≤9223372036854775807:=h
def wI (f:ad):Bool:=decide ((100:Int)<f.vars.length)||(decide ((40:Int)<f.blocks.length)||decide ((20:Int)<f.params.length))
def wJ (b:aN):Bool:=decide ((400:Int)<b.name.size)||(decide ((400:Int)<b.phis.length)||decide ((400:Int)<b.insts.length))
end Go.Proofs.YtdilpodccjlkgaaGreatDoor
namespace Go.Proofs.YtdilpodccjlkgaaGreatDoor
open Go.Proofs.Tryz
open Go.Proofs Go.Lib Go.Shelf Go.RowKit
set_option maxRecDepth 20000
variable {E:World}
end Go.Proofs.YtdilpodccjlkgaaGreatDoor
