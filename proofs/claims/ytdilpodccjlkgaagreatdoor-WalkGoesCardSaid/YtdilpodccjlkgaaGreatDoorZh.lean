/- An instruction's line by the document; an end's line; the chapter's example. No conditions but bounds. -/
import Derived.Test.YtdilpodccjlkgaaGreatDoorZg
import Derived.Test.YtdilpodccjlkgaaGreatDoorZb
set_option linter.unusedVariables false
set_option linter.unusedSimpArgs false
set_option linter.unusedSectionVars false
namespace Go.Proofs.YtdilpodccjlkgaaGreatDoor
open Go.Proofs.Tryz
open Go.Proofs Go.Lib Go.Shelf Go.RowKit
set_option maxRecDepth 20000
variable {E:World}
def tm (f:ac) (p:dG):Prop:=bc f p.dst=true∧p.args.length=p.from_.length∧1≤p.args.length∧p.args.all (bc f)=true∧p.from_.all (eL f)=true
def kn (x:aF):Bool:=decide ((bY x.op).1=⟨#[99,111,110,115,116]⟩)||decide ((bY x.op).1=⟨#[112,105]⟩)
def nd (f:ac) (x:aF):Bool:=!decide ((x.args.length:Int)=((bY x.op).2.1.size:Int))||(!(decide ((bY x.op).2.2=⟨#[]⟩) == decide (x.dst=-1))||((!decide (x.dst=-1)&&!bc f x.dst)||(!decide (x.num=0)&&!kn x)))
def pE (f:ac) (x:aF):Prop:=0≤x.op∧x.op≤26∧nd f x=false∧x.args.all (bc f)=true
def AX (f:ac) (b:aX):Prop:=(∀p∈b.phis,tm f p)∧(∀x∈b.insts,pE f x)∧bC f b.term=true
def fF (l:List aX):Nat:=(l.map fun b=>b.phis.length+b.insts.length).sum
def nf (f:ac):Bool:=decide ((512:Int)<f.vars.length)||(decide ((8:Int)<f.params.length)||(decide ((f.vars.length:Int)<f.params.length)||(decide ((f.blocks.length:Int)<1)||decide ((64:Int)<f.blocks.length))))
def CQ (f:ac) (i:Nat) (v:uF):Prop:=mC v.name=true∧0≤v.ty∧v.ty≤2∧∀s∈(f.vars.take i).map (·.name),s≠v.name
def EE (f:ac) (i:Nat) (b:aX):Prop:=mC b.name=true∧∀s∈(f.blocks.take i).map (·.name),s≠b.name
def bR (f:ac):Prop:=nf f=false∧(∀i (h:i<f.params.length),f.params[i]=(i:Int))∧(∀i (h:i<f.vars.length),CQ f i f.vars[i])∧(∀i (h:i<f.blocks.length),EE f i f.blocks[i])∧fF f.blocks≤1024∧∀b∈f.blocks,AX f b
instance (f:ac) (p:dG):Decidable (tm f p):=by unfold tm;infer_instance
instance (f:ac) (x:aF):Decidable (pE f x):=by unfold pE;infer_instance
instance (f:ac) (b:aX):Decidable (AX f b):=by unfold AX;infer_instance
instance (f:ac) (i:Nat) (v:uF):Decidable (CQ f i v):=by unfold CQ;infer_instance
instance (f:ac) (i:Nat) (b:aX):Decidable (EE f i b):=by unfold EE;infer_instance
instance (f:ac):Decidable (bR f):=by unfold bR;infer_instance
theorem xc (l:List aX) (k:Nat):fF (l.take k)≤fF l:=by
 have:fF l=fF (l.take k)+fF (l.drop k):=by
  unfold fF;rw[←List.sum_append,←w5,List.take_append_drop]
 omega
theorem pF (l:List aX) (k:Nat) (h:k<l.length):fF (l.take (k+1))=fF (l.take k)+(l[k].phis.length+l[k].insts.length):=by
 unfold fF;rw[qu h,w5,List.sum_append];simp only[List.map_cons,List.map_nil,List.sum_cons,List.sum_nil,Nat.add_zero]
theorem uS {α:Type} {g:α→ByteArray} {l:List α} {k:Nat} {s:ByteArray} (h:k<l.length) (h1:∀x∈(l.take k).map g,x≠s) (h2:¬g l[k]=s):∀x∈(l.take (k+1)).map g,x≠s:=by
 rw[qu h,w5]
 intro x hx
 rcases List.mem_append.1 hx with hx|hx
 ·exact h1 x hx
 ·simp only[List.map_cons,List.map_nil,List.mem_singleton] at hx;rw[hx];exact h2
theorem yZ {α:Type} {g:α→ByteArray} {l:List α} {k i:Nat} {s:ByteArray} (h:k<l.length) (hk:k<i) (h1:∀x∈(l.take i).map g,x≠s):¬g l[k]=s:=by
 refine h1 _ (List.mem_map.2 ⟨l[k],?_,Z⟩)
 refine List.mem_iff_getElem?.2 ⟨k,?_⟩
 rw[List.getElem?_take,if_pos hk,qt h]
theorem bJ {α:Type} {p:α→Bool} {l:List α} {k:Nat} (h:k<l.length) (h1:(l.take k).all p=true) (h2:p l[k]=true):(l.take (k+1)).all p=true:=by
 rw[qu h,List.all_append,h1];simp[h2]
theorem df {α:Type} {p:α→Bool} {l:List α} {k:Nat} (h:k<l.length) (h2:p l[k]=false):¬l.all p=true:=fun h3=>by
 have:=List.all_eq_true.1 h3 _ (qx h);rw[h2] at this;cases this
theorem kP {α:Type} {l:List α} {k:Nat} (h:l.length≤k):l.take k=l:=List.take_of_length_le h
theorem eQ {α:Type} {p:α→Prop} {l:List α} {k:Nat} (h:k<l.length) (h1:∀x∈l.take k,p x) (h2:p l[k]):∀x∈l.take (k+1),p x:=by
 rw[qu h]
 intro x hx
 rcases List.mem_append.1 hx with hx|hx
 ·exact h1 x hx
 ·rw[List.mem_singleton.1 hx];exact h2
def mD (f:ac):Prop:=(∀v∈f.vars,v.name.size≤140737488355328)∧∀b∈f.blocks,b.name.size≤140737488355328
set_option maxHeartbeats 8000000 in
theorem pH (f:ac) (hf:ta f) (hn:mD f) (hL:bz E):aM prog E 122 [.agg (bE f)] (.bool (decide (bR f))):=by
 obtain ⟨hf1,hf2,hf3,hf4⟩:=hf
 have hl1:=hf1.lt
 have hl2:=hf2.lt
 have hl3:=hf3.lt
 refine zp func122 Z (by decide) Z<|ai<|ya (cs:=_) Z Z Z<|ab Z<|z6<|ai<|au jg Z Yc Z Z<|aI Yn Z<|aq Z9 Z<|ao Z<|z6<|zd<|zd<|ye (γ:=Unit) [1,3] (fun u=>[(53,.bool (nf f))]) (fun u=>[]) (fun u=>True) ?_ (fun _ _ h=>h) ?_
 ·refine aW<|aa Z<|aZ Z Z<|aj Z<|zq (s:=29) Z (fun c1=>?_) (fun c1=>?_)
  ·refine z7 Z Z c1<|z7 Z Z c1<|z7 Z Z c1<|z7 Z Z c1<|aw Z c1 Z<|aj Z<|z7 Z Z Z<|z7 Z Z Z<|z7 Z Z Z<|z7 Z Z Z<|z7 Z Z Z<|aw Z Z Z<|aj Z<|z7 Z Z Z<|z7 Z Z Z<|z7 Z Z Z<|z7 Z Z Z<|aw Z Z Z<|aj Z<|z7 Z Z Z<|z7 Z Z Z<|z7 Z Z Z<|z7 Z Z Z<|aw Z Z Z<|z6 ?_
   exact ⟨(),eo,⟨jb (by simp_all[nf]<;>grind),trivial⟩,aH,trivial⟩
  ·refine z8 Z Z c1<|au jg Z j7 Z Z<|z8 Z Z c1<|aI jf Z<|z8 Z Z c1<|aq wy Z<|z8 Z Z c1<|aZ Z Z<|ax Z c1 Z<|aj Z<|zq (s:=35) Z (fun c2=>?_) (fun c2=>?_)
   ·refine z7 Z Z c2<|z7 Z Z c2<|z7 Z Z c2<|z7 Z Z c2<|z7 Z Z c2<|aw Z c2 Z<|aj Z<|z7 Z Z Z<|z7 Z Z Z<|z7 Z Z Z<|z7 Z Z Z<|aw Z Z Z<|aj Z<|z7 Z Z Z<|z7 Z Z Z<|z7 Z Z Z<|z7 Z Z Z<|aw Z Z Z<|z6 ?_
    exact ⟨(),eo,⟨jb (by simp_all[nf]<;>grind),trivial⟩,aH,trivial⟩
   ·refine z8 Z Z c2<|au jg Z j7 Z Z<|z8 Z Z c2<|aI jf Z<|z8 Z Z c2<|aq wy Z<|z8 Z Z c2<|aa Z<|z8 Z Z c2<|aZ Z Z<|ax Z c2 Z<|aj Z<|zq (s:=42) Z (fun c3=>?_) (fun c3=>?_)
    ·refine z7 Z Z c3<|z7 Z Z c3<|z7 Z Z c3<|z7 Z Z c3<|aw Z c3 Z<|aj Z<|z7 Z Z Z<|z7 Z Z Z<|z7 Z Z Z<|z7 Z Z Z<|aw Z Z Z<|z6 ?_
     exact ⟨(),eo,⟨jb (by simp_all[nf]<;>grind),trivial⟩,aH,trivial⟩
    ·refine z8 Z Z c3<|au jg Z Z8 Z Z<|z8 Z Z c3<|aI Zg Z<|z8 Z Z c3<|aq ju Z<|z8 Z Z c3<|ay Z Z<|ax Z c3 Z<|aj Z<|zq (s:=48) Z (fun c4=>?_) (fun c4=>?_)
     ·refine z7 Z Z c4<|z7 Z Z c4<|z7 Z Z c4<|z7 Z Z c4<|aw Z c4 Z<|z6 ?_
      exact ⟨(),eo,⟨jb (by simp_all[nf]<;>grind),trivial⟩,aH,trivial⟩
     ·refine z8 Z Z c4<|au jg Z Z8 Z Z<|z8 Z Z c4<|aI Zg Z<|z8 Z Z c4<|aq ju Z<|z8 Z Z c4<|aZ Z Z<|ax Z c4 Z<|z6 ?_
      exact ⟨(),eo,⟨jb (by simp_all[nf]<;>grind),trivial⟩,aH,trivial⟩
 ·rintro _ _
  refine zy Z (fun c1=>?_) (fun c1=>?_)
  ·refine ai<|ab Z<|z6<|zg<|zn (x:=.bool _) Z ?_
   rw[w9 (fun h=>by rw[h.1] at c1;cases c1)]
  ·have hsz:f.vars.length≤512∧f.params.length≤8∧f.params.length≤f.vars.length∧1≤f.blocks.length∧f.blocks.length≤64:=by unfold nf at c1;simp at c1;omega
   refine zi<|zd<|ai<|au jg Z j7 Z Z<|aI jf Z<|aq wy Z<|aa Z<|z6<|zm<|y8 (γ:=Nat) [1,3,55,56] (fun k=>[(57,.int .i64 k)]) (fun k=>[]) (fun k=>k≤f.params.length∧∀i (h:i<f.params.length),i<k→f.params[i]=(i:Int)) (fun k=>f.params.length - k) 0 aK aH (⟨qw _,fun i h hk=>by omega⟩) ?_
   rintro k ⟨hk,hpar⟩
   refine ai<|ay Z Z<|z6<|zd<|zt Z (fun ck=>?_) (fun ck=>?_)
   ·have hk2:k<f.params.length:=by omega
    refine zi<|zd<|zm<|ai<|aa Z<|za (qe wy wz Z Z Z (qt (by omega)))<|aA j6 Z<|ao Z<|ao Z<|z6<|ai<|aa Z<|aa Z<|aO Z Z<|z6<|zy Z (fun cp=>?_) (fun cp=>?_)
    ·refine ai<|ab Z<|z6<|zg<|zn (x:=.bool _) Z ?_
     rw[w9 (fun h=>by have:=h.2.1 k hk2;simp[this] at cp)]
    ·refine zi<|aW<|aE Z Z<|aa Z<|z6 ?_
     exact ⟨k+1,gH,aK,aH,⟨hk2,fun i h hi=>by rcases Nat.lt_or_ge i k with h3|h3;exact hpar i h h3;obtain rfl:i=k:=(by omega);simpa using cp⟩,by omega⟩
   ·have hpars:∀i (h:i<f.params.length),f.params[i]=(i:Int):=fun i h=>hpar i h (by omega)
    refine y6<|zd<|ai<|au jg Z Yc Z Z<|aI Yn Z<|aq Z9 Z<|aa Z<|z6<|zm<|y8 (γ:=Nat) [1,3,67,68] (fun k=>[(69,.int .i64 k)]) (fun k=>[]) (fun k=>k≤f.vars.length∧∀i (h:i<f.vars.length),i<k→CQ f i f.vars[i]) (fun k=>f.vars.length - k) 0 aK aH (⟨qw _,fun i h hk=>by omega⟩) ?_
    rintro k ⟨hk,hvar⟩
    refine ai<|ay Z Z<|z6<|zd<|zt Z (fun ck=>?_) (fun ck=>?_)
    ·have hk2:k<f.vars.length:=by omega
     have hnk:f.vars[k].name.size≤140737488355328:=hn.1 _ (qx hk2)
     refine zi<|zd<|zm<|ai<|aa Z<|za (qe Z9 Yd Z Z Z (qt (by omega)))<|ae isAgg61 Yd Z Z<|y7 (cs:=[.str ⟨#[]⟩,.int .i64 0]) zeroValue61 Z Z<|fun i7=>ao Z<|y1 Yd Z Z Z Z Z Z .head Z<|z6<|zd<|zd<|ye (γ:=Unit) [1,3,6,7,67,68,69] (fun u=>[(87,.bool (!mC f.vars[k].name||(decide (f.vars[k].ty<0)||decide (2<f.vars[k].ty))))]) (fun u=>[(i7,.cells 61 (gC f.vars[k]))]) (fun u=>True) ?_ (fun _ _ h=>h) ?_
     ·refine aW<|za (zf Zm Z Y8 (by decide) Z Z)<|za (zo (c:=.str _) Yh Z ⟨_,.head⟩ Z)<|zh (sq _ (by assumption) hL) Z<|aC Z<|aj Z<|zq (s:=78) Z (fun c5=>?_) (fun c5=>?_)
      ·refine z7 Z Z c5<|z7 Z Z c5<|z7 Z Z c5<|aw Z c5 Z<|aj Z<|z7 Z Z Z<|z7 Z Z Z<|z7 Z Z Z<|aw Z Z Z<|z6 ?_
       exact ⟨(),lf,⟨jb (by simp_all<;>grind),trivial⟩,aH,trivial⟩
      ·refine z8 Z Z c5<|za (zf Zm Z X2 (by decide) Z Z)<|z8 Z Z c5<|za (zo (c:=.int _ _) Xh Z ⟨_,.head⟩ Z)<|z8 Z Z c5<|ay Z Z<|ax Z c5 Z<|aj Z<|zq (s:=83) Z (fun c6=>?_) (fun c6=>?_)
       ·refine z7 Z Z c6<|z7 Z Z c6<|z7 Z Z c6<|aw Z c6 Z<|z6 ?_
        exact ⟨(),lf,⟨jb (by simp_all<;>grind),trivial⟩,aH,trivial⟩
       ·refine z8 Z Z c6<|za (zf Zm Z X2 (by decide) Z Z)<|z8 Z Z c6<|za (zo (c:=.int _ _) Xh Z ⟨_,.head⟩ Z)<|z8 Z Z c6<|aZ Z Z<|ax Z c6 Z<|z6 ?_
        exact ⟨(),lf,⟨jb (by simp_all<;>grind),trivial⟩,aH,trivial⟩
     ·rintro _ _
      refine zy Z (fun cv=>?_) (fun cv=>?_)
      ·refine ai<|ab Z<|z6<|zg<|zn (x:=.bool _) Z ?_
       rw[w9 (fun h=>by have:=h.2.2.1 k hk2;obtain ⟨h1,h2,h3,_⟩:=this;simp[h1] at cv;omega)]
      ·have hv3:mC f.vars[k].name=true∧0≤f.vars[k].ty∧f.vars[k].ty≤2:=by simp at cv;omega
       refine zi<|ai<|aa Z<|aa Z<|z6<|zm<|y8 (γ:=Nat) [1,3,7,67,68,69,88] (fun j=>[(89,.int .i64 j)]) (fun j=>[(i7,.cells 61 (gC f.vars[k]))]) (fun j=>j≤k∧∀s∈(f.vars.take j).map (·.name),s≠f.vars[k].name) (fun j=>k - j) 0 aK aH (⟨qw _,by simp⟩) ?_
       rintro j ⟨hj,hno⟩
       refine ai<|ay Z Z<|z6<|zd<|zt Z (fun cj=>?_) (fun cj=>?_)
       ·have hj1:j<f.vars.length:=by omega
        refine zi<|zd<|zm<|ai<|aa Z<|ao Z<|z6<|zd<|zr (fun j=>false) (by kernel_rfl) Z (zj (.r (.rest _)))<|ad 0 Z (bK jg Z Yc Z Z)<|ad 1 Z (e9 Yn Z)<|ad 2 Z (cD Z)<|ad 3 Z (qe Z9 Yd Z Z Z (qt (by omega)))<|ad 4 Z (bK Zm Z Y8 Z Z)<|ad 5 Z (yx (c:=.str _) Yh Z)<|ad 6 Z (zf Zm Z Y8 (by decide) Z Z)<|ad 7 Z (zo (c:=.str _) Yh Z ⟨_,.head⟩ Z)<|ad 8 Z (q4 Z Z)<|bI<|zt Z (fun ce=>?_) (fun ce=>?_)
        ·refine ai<|ab Z<|z6<|zg<|zn (x:=.bool _) Z ?_
         rw[w9 (fun h=>by exact yZ (g:=uF.name) hj1 (by omega) (h.2.2.1 k hk2).2.2.2 ce)]
        ·refine zi<|aW<|aE Z Z<|aa Z<|z6 ?_
         exact ⟨j+1,lf,aK,aH,⟨by omega,uS hj1 hno ce⟩,by omega⟩
       ·obtain rfl:j=k:=by omega
        refine y6<|aW<|aE Z Z<|aa Z<|z6 ?_
        exact ⟨j+1,gH,aK,⟨_,(.drop (.refl _)),rfl⟩,⟨hk2,fun i h hi=>by rcases Nat.lt_or_ge i j with h3|h3;exact hvar i h h3;obtain rfl:i=j:=(by omega);exact ⟨hv3.1,hv3.2.1,hv3.2.2,hno⟩⟩,by omega⟩
    ·have hvars:∀i (h:i<f.vars.length),CQ f i f.vars[i]:=fun i h=>hvar i h (by omega)
     refine y6<|ai<|au jg Z Z8 Z Z<|aI Zg Z<|aq ju Z<|ao Z<|z6<|ai<|ao Z<|z6<|zd<|ai<|au jg Z Z8 Z Z<|aI Zg Z<|aq ju Z<|aa Z<|z6<|zm<|y8 (γ:=Nat) [1,3,9,107,108] (fun g=>[(109,.int .i64 g),(10,.int .i64 (fF (f.blocks.take g)))]) (fun g=>[]) (fun g=>g≤f.blocks.length∧(∀i (h:i<f.blocks.length),i<g→EE f i f.blocks[i])∧fF (f.blocks.take g)≤1024∧∀b∈f.blocks.take g,AX f b) (fun g=>f.blocks.length - g) 0 eo aH (⟨qw _,fun i h hk=>by omega,by simp[fF],by simp⟩) ?_
     rintro k ⟨hk,hnam,hsum,hblk⟩
     refine ai<|ay Z Z<|z6<|zd<|zt Z (fun ck=>?_) (fun ck=>?_)
     ·have hk2:k<f.blocks.length:=by omega
      have hnk:f.blocks[k].name.size≤140737488355328:=hn.2 _ (qx hk2)
      obtain ⟨hb1,hb2,hb3,hb4⟩:=hf4 _ (qx hk2)
      have hl4:=hb1.lt
      have hl5:=hb2.lt
      refine zi<|zd<|zm<|ai<|aa Z<|za (qe ju jx Z Z Z (qt (by omega)))<|ae Yo jx Z Z<|y7 (cs:=[.str ⟨#[]⟩,.raw (.slice none 0 0),.raw (.slice none 0 0),.int .i64 0,.int .i64 0,.int .i64 0,.int .i64 0]) Zl Z Z<|fun i12=>ao Z<|y1 jx Z Z Z Z Z Z .head Z<|z6<|zd<|ai<|za (zf ji Z Y8 (by decide) Z Z)<|za (zo (c:=.str _) Yh Z ⟨_,.head⟩ Z)<|zh (sq _ (by assumption) hL) Z<|aC Z<|z6<|zy Z (fun cv=>?_) (fun cv=>?_)
      ·refine ai<|ab Z<|z6<|zg<|zn (x:=.bool _) Z ?_
       rw[w9 (fun h=>by have:=(h.2.2.2.1 k hk2).1;simp[this] at cv)]
      ·refine zi<|zd<|ai<|aa Z<|aa Z<|z6<|zm<|y8 (γ:=Nat) [1,3,9,10,12,107,108,109,118] (fun j=>[(119,.int .i64 j)]) (fun j=>[(i12,.cells 51 (dh f.blocks[k]))]) (fun j=>j≤k∧∀s∈(f.blocks.take j).map (·.name),s≠f.blocks[k].name) (fun j=>k - j) 0 aK aH (⟨qw _,by simp⟩) ?_
       rintro j ⟨hj,hno⟩
       refine ai<|ay Z Z<|z6<|zd<|zt Z (fun cj=>?_) (fun cj=>?_)
       ·have hj1:j<f.blocks.length:=by omega
        refine zi<|zd<|zm<|ai<|aa Z<|ao Z<|z6<|zd<|zr (fun j=>false) (by kernel_rfl) Z (zj (.r (.rest _)))<|ad 0 Z (bK jg Z Z8 Z Z)<|ad 1 Z (e9 Zg Z)<|ad 2 Z (cD Z)<|ad 3 Z (qe ju jx Z Z Z (qt (by omega)))<|ad 4 Z (bK ji Z Y8 Z Z)<|ad 5 Z (yx (c:=.str _) Yh Z)<|ad 6 Z (zf ji Z Y8 (by decide) Z Z)<|ad 7 Z (zo (c:=.str _) Yh Z ⟨_,.head⟩ Z)<|ad 8 Z (q4 Z Z)<|bI<|zt Z (fun ce=>?_) (fun ce=>?_)
        ·refine ai<|ab Z<|z6<|zg<|zn (x:=.bool _) Z ?_
         rw[w9 (fun h=>by exact yZ (g:=aX.name) hj1 (by omega) (h.2.2.2.1 k hk2).2 ce)]
        ·refine zi<|aW<|aE Z Z<|aa Z<|z6 ?_
         exact ⟨j+1,sY,aK,aH,⟨by omega,uS hj1 hno ce⟩,by omega⟩
       ·obtain rfl:j=k:=by omega
        have hs1:=pF f.blocks j hk2
        refine y6<|ai<|aa Z<|za (zf ji Z Yl (by decide) Z Z)<|za (zo (c:=.fro _ _) Yv Z ⟨_,.head⟩ Z)<|aq Z3 Z<|aE Z Z<|za (zf ji Z Zt (by decide) Z Z)<|za (zo (c:=.fro _ _) Y9 Z ⟨_,.head⟩ Z)<|aq Z0 Z<|aE Z Z<|ao Z<|z6<|zd<|ai<|aa Z<|aZ Z Z<|z6<|zt Z (fun cs=>?_) (fun cs=>?_)
        ·refine ai<|ab Z<|z6<|zg<|zn (x:=.bool _) Z ?_
         rw[w9 (fun h=>by have:=h.2.2.2.2.1;have:=xc f.blocks (j+1);omega)]
        ·refine zi<|zd<|ai<|za (zf ji Z Yl (by decide) Z Z)<|za (zo (c:=.fro _ _) Yv Z ⟨_,.head⟩ Z)<|aq Z3 Z<|aa Z<|z6<|zm<|y8 (γ:=Nat) [1,3,9,10,12,107,108,109,144,145] (fun p=>[(146,.int .i64 p)]) (fun p=>[(i12,.cells 51 (dh f.blocks[j]))]) (fun p=>p≤f.blocks[j].phis.length∧∀q∈f.blocks[j].phis.take p,tm f q) (fun p=>f.blocks[j].phis.length - p) 0 aK aH (⟨qw _,by simp⟩) ?_
         rintro p ⟨hp,hphi⟩
         refine ai<|ay Z Z<|z6<|zd<|zt Z (fun cp=>?_) (fun cp=>?_)
         ·have hp2:p<f.blocks[j].phis.length:=by omega
          obtain ⟨hq1,hq2⟩:=hb3 _ (qx hp2)
          have hl6:=hq1.lt
          have hl7:=hq2.lt
          refine zi<|zd<|zm<|ai<|za (qe Z3 Zb Z Z Z (qt (by omega)))<|ae X1 Zb Z Z<|y7 (cs:=[.int .i64 0,.raw (.slice none 0 0),.raw (.slice none 0 0)]) Yg Z Z<|fun i15=>y1 Zb Z Z Z Z Z Z .head Z<|z6<|zd<|zd<|ye (γ:=Unit) [1,3,9,10,12,15,107,108,109,144,145,146] (fun u=>[(169,.bool (!bc f f.blocks[j].phis[p].dst||(!decide ((f.blocks[j].phis[p].args.length:Int)=f.blocks[j].phis[p].from_.length)||decide ((f.blocks[j].phis[p].args.length:Int)<1))))]) (fun u=>[(i15,.cells 63 (fe f.blocks[j].phis[p])),(i12,.cells 51 (dh f.blocks[j]))]) (fun u=>True) ?_ (fun _ _ h=>h) ?_
          ·refine aW<|za (zf jz Z wz (by decide) Z Z)<|za (zo (c:=.int _ _) j6 Z ⟨_,.head⟩ Z)<|aa Z<|zh (gl _ _) Z<|aC Z<|aj Z<|zq (s:=155) Z (fun c7=>?_) (fun c7=>?_)
           ·refine z7 Z Z c7<|z7 Z Z c7<|z7 Z Z c7<|z7 Z Z c7<|z7 Z Z c7<|z7 Z Z c7<|z7 Z Z c7<|aw Z c7 Z<|aj Z<|z7 Z Z Z<|z7 Z Z Z<|z7 Z Z Z<|z7 Z Z Z<|aw Z Z Z<|z6 ?_
            exact ⟨(),lF,⟨jb (by simp_all[bc]<;>grind),trivial⟩,aH,trivial⟩
           ·refine z8 Z Z c7<|za (zf jz Z j7 (by decide) Z Z)<|z8 Z Z c7<|za (zo (c:=.fro _ _) jf Z ⟨_,.head⟩ Z)<|z8 Z Z c7<|aq wy Z<|z8 Z Z c7<|za (zf jz Z j7 (by decide) Z Z)<|z8 Z Z c7<|za (zo (c:=.fro _ _) jf Z ⟨_,.head⟩ Z)<|z8 Z Z c7<|aq wy Z<|z8 Z Z c7<|aO Z Z<|ax Z c7 Z<|aj Z<|zq (s:=164) Z (fun c8=>?_) (fun c8=>?_)
            ·refine z7 Z Z c8<|z7 Z Z c8<|z7 Z Z c8<|z7 Z Z c8<|aw Z c8 Z<|z6 ?_
             exact ⟨(),lF,⟨jb (by simp_all[bc]<;>grind),trivial⟩,aH,trivial⟩
            ·refine z8 Z Z c8<|za (zf jz Z j7 (by decide) Z Z)<|z8 Z Z c8<|za (zo (c:=.fro _ _) jf Z ⟨_,.head⟩ Z)<|z8 Z Z c8<|aq wy Z<|z8 Z Z c8<|ay Z Z<|ax Z c8 Z<|z6 ?_
             exact ⟨(),lF,⟨jb (by simp_all[bc]<;>grind),trivial⟩,aH,trivial⟩
          ·rintro _ _
           refine zy Z (fun cq=>?_) (fun cq=>?_)
           ·refine ai<|ab Z<|z6<|zg<|zn (x:=.bool _) Z ?_
            rw[w9 (fun h=>by have:=(h.2.2.2.2.2 _ (qx hk2)).1 _ (qx hp2);obtain ⟨h1,h2,h3,_⟩:=this;rw[h1,h2] at cq;simp only[Bool.not_true,Bool.false_or,decide_true,wg] at cq;omega)]
           ·have hq3:bc f f.blocks[j].phis[p].dst=true∧f.blocks[j].phis[p].args.length=f.blocks[j].phis[p].from_.length∧1≤f.blocks[j].phis[p].args.length:=by
             rcases Bool.or_eq_false_iff.1 cq with ⟨a1,a2⟩
             rcases Bool.or_eq_false_iff.1 a2 with ⟨a3,a4⟩
             exact ⟨by simpa using a1,by simp only[Bool.not_eq_false',wg] at a3;omega,by have:=we a4;omega⟩
            refine zi<|ai<|za (zf jz Z j7 (by decide) Z Z)<|za (zo (c:=.fro _ _) jf Z ⟨_,.head⟩ Z)<|aq wy Z<|aa Z<|z6<|zm<|y8 (γ:=Nat) [1,3,9,10,12,15,107,108,109,144,145,146,172] (fun m=>[(173,.int .i64 m)]) (fun m=>[(i15,.cells 63 (fe f.blocks[j].phis[p])),(i12,.cells 51 (dh f.blocks[j]))]) (fun m=>m≤f.blocks[j].phis[p].args.length∧(f.blocks[j].phis[p].args.take m).all (bc f)=true∧(f.blocks[j].phis[p].from_.take m).all (eL f)=true) (fun m=>f.blocks[j].phis[p].args.length - m) 0 aK aH (⟨qw _,Z,Z⟩) ?_
            rintro m ⟨hm,ha1,ha2⟩
            refine ai<|ay Z Z<|z6<|zd<|zt Z (fun cm=>?_) (fun cm=>?_)
            ·have hm1:m<f.blocks[j].phis[p].args.length:=by omega
             have hm2:m<f.blocks[j].phis[p].from_.length:=by omega
             refine zi<|zd<|zm<|ai<|aa Z<|ao Z<|z6<|zd<|ye (γ:=Unit) [1,3,9,10,12,15,107,108,109,144,145,146,172,173] (fun u=>[(193,.bool (!bc f f.blocks[j].phis[p].args[m]||!eL f f.blocks[j].phis[p].from_[m]))]) (fun u=>[(i15,.cells 63 (fe f.blocks[j].phis[p])),(i12,.cells 51 (dh f.blocks[j]))]) (fun u=>True) ?_ (fun _ _ h=>h) ?_
             ·refine aW<|za (zf jz Z j7 (by decide) Z Z)<|za (zo (c:=.fro _ _) jf Z ⟨_,.head⟩ Z)<|aa Z<|za (qe wy wz Z Z Z (qt (by omega)))<|aA j6 Z<|aa Z<|zh (gl _ _) Z<|aC Z<|aj Z<|zq (s:=184) Z (fun c9=>?_) (fun c9=>?_)
              ·refine z7 Z Z c9<|z7 Z Z c9<|z7 Z Z c9<|z7 Z Z c9<|z7 Z Z c9<|z7 Z Z c9<|z7 Z Z c9<|z7 Z Z c9<|aw Z c9 Z<|z6 ?_
               exact ⟨(),⟨rfl,rfl,rfl,rfl,rfl,rfl,rfl,rfl,rfl,rfl,rfl,rfl,rfl,rfl,trivial⟩,⟨jb (by simp_all[bc,eL]<;>grind),trivial⟩,aH,trivial⟩
              ·refine z8 Z Z c9<|za (zf jz Z j7 (by decide) Z Z)<|z8 Z Z c9<|za (zo (c:=.fro _ _) jf Z ⟨_,.head⟩ Z)<|z8 Z Z c9<|aa Z<|z8 Z Z c9<|za (qe wy wz Z Z Z (qt (by omega)))<|z8 Z Z c9<|aA j6 Z<|z8 Z Z c9<|aa Z<|z8 Z Z c9<|zh (gl _ _) Z<|z8 Z Z c9<|aC Z<|ax Z c9 Z<|z6 ?_
               exact ⟨(),⟨rfl,rfl,rfl,rfl,rfl,rfl,rfl,rfl,rfl,rfl,rfl,rfl,rfl,rfl,trivial⟩,⟨jb (by simp_all[bc,eL]<;>grind),trivial⟩,aH,trivial⟩
             ·rintro _ _
              refine zy Z (fun cw=>?_) (fun cw=>?_)
              ·refine ai<|ab Z<|z6<|zg<|zn (x:=.bool _) Z ?_
               rw[w9 (fun h=>by have:=(h.2.2.2.2.2 _ (qx hk2)).1 _ (qx hp2);obtain ⟨_,_,_,h4,h5⟩:=this;have h6:=List.all_eq_true.1 h4 _ (qx hm1);have h7:=List.all_eq_true.1 h5 _ (qx hm2);rw[h6,h7] at cw;cases cw)]
              ·refine zi<|aW<|aE Z Z<|aa Z<|z6 ?_
               exact ⟨m+1,⟨rfl,rfl,rfl,rfl,rfl,rfl,rfl,rfl,rfl,rfl,rfl,rfl,rfl,trivial⟩,aK,aH,⟨hm1,bJ hm1 ha1 (by simp at cw;exact cw.1),bJ hm2 ha2 (by simp at cw;exact cw.2)⟩,by omega⟩
            ·rw[kP (by omega)] at ha1
             rw[kP (by omega)] at ha2
             refine y6<|aW<|aE Z Z<|aa Z<|z6 ?_
             exact ⟨p+1,oc,aK,⟨_,(.drop (.refl _)),rfl⟩,⟨hp2,eQ hp2 hphi ⟨hq3.1,hq3.2.1,hq3.2.2,ha1,ha2⟩⟩,by omega⟩
         ·rw[kP (by omega)] at hphi
          refine y6<|zd<|ai<|za (zf ji Z Zt (by decide) Z Z)<|za (zo (c:=.fro _ _) Y9 Z ⟨_,.head⟩ Z)<|aq Z0 Z<|aa Z<|z6<|zm<|y8 (γ:=Nat) [1,3,9,10,12,107,108,109,197,198] (fun p=>[(199,.int .i64 p)]) (fun p=>[(i12,.cells 51 (dh f.blocks[j]))]) (fun p=>p≤f.blocks[j].insts.length∧∀q∈f.blocks[j].insts.take p,pE f q) (fun p=>f.blocks[j].insts.length - p) 0 aK aH (⟨qw _,by simp⟩) ?_
          rintro p ⟨hp,hins⟩
          refine ai<|ay Z Z<|z6<|zd<|zt Z (fun cp=>?_) (fun cp=>?_)
          ·have hp2:p<f.blocks[j].insts.length:=by omega
           have hq1:=hb4 _ (qx hp2)
           have hl6:=hq1.lt
           refine zi<|zd<|zm<|ai<|za (qe Z0 jy Z Z Z (qt (by omega)))<|ae Zz jy Z Z<|y7 (cs:=[.int .i64 0,.int .i64 0,.raw (.slice none 0 0),.int .i64 0]) Zh Z Z<|fun i18=>y1 jy Z Z Z Z Z Z .head Z<|z6<|zd<|zd<|ye (γ:=Unit) [1,3,9,10,12,18,107,108,109,197,198,199] (fun u=>[(210,.bool (decide (f.blocks[j].insts[p].op<0)||decide (26<f.blocks[j].insts[p].op)))]) (fun u=>[(i18,.cells 54 (bH f.blocks[j].insts[p])),(i12,.cells 51 (dh f.blocks[j]))]) (fun u=>True) ?_ (fun _ _ h=>h) ?_
           ·refine aW<|za (zf j5 Z Z2 (by decide) Z Z)<|za (zo (c:=.int _ _) Z4 Z ⟨_,.head⟩ Z)<|ay Z Z<|aj Z<|zq (s:=206) Z (fun c10=>?_) (fun c10=>?_)
            ·refine z7 Z Z c10<|z7 Z Z c10<|z7 Z Z c10<|aw Z c10 Z<|z6 ?_
             exact ⟨(),lF,⟨jb (by simp_all<;>grind),trivial⟩,aH,trivial⟩
            ·refine z8 Z Z c10<|za (zf j5 Z Z2 (by decide) Z Z)<|z8 Z Z c10<|za (zo (c:=.int _ _) Z4 Z ⟨_,.head⟩ Z)<|z8 Z Z c10<|aZ Z Z<|ax Z c10 Z<|z6 ?_
             exact ⟨(),lF,⟨jb (by simp_all<;>grind),trivial⟩,aH,trivial⟩
           ·rintro _ _
            refine zy Z (fun cq=>?_) (fun cq=>?_)
            ·refine ai<|ab Z<|z6<|zg<|zn (x:=.bool _) Z ?_
             rw[w9 (fun h=>by have:=(h.2.2.2.2.2 _ (qx hk2)).2.1 _ (qx hp2);obtain ⟨h1,h2,_⟩:=this;simp at cq;omega)]
            ·have hop:0≤f.blocks[j].insts[p].op∧f.blocks[j].insts[p].op≤26:=by simp at cq;omega
             have hrow:gI[f.blocks[j].insts[p].op.toNat]?=some (bY f.blocks[j].insts[p].op):=by unfold bY;rw[if_pos hop.1,qt (show _<27 by omega)];rfl
             refine zi<|zd<|ye (γ:=Nat) [1,3,9,10,12,18,107,108,109,197,198,199] (fun i=>[(19,.po i 0)]) (fun i=>[(i18,.cells 54 (bH f.blocks[j].insts[p])),(i,.cells 154 (rD (bY f.blocks[j].insts[p].op))),(i12,.cells 51 (dh f.blocks[j]))]) (fun i=>True) ?_ (fun _ _ h=>h) ?_
             ·refine zr (fun j=>Nat.beq j 6) (by kernel_rfl) Z (zj (.r (.rest _)))<|ad 1 Z (zf j5 Z Z2 (by decide) Z Z)<|ad 2 Z (zo (c:=.int _ _) Z4 Z ⟨_,.head⟩ Z)<|yr (i:=0) (j:=5) Z Z (by kernel_rfl) ?_ ?_
              ·refine zh (iR) Z<|z6<|ad 3 Z (qe (j:=(f.blocks[j].insts[p].op.toNat)) Xd Ys Z Z (wc hop.1).symm hrow)<|ad 4 Z (yw isAgg154 Ys Z Z)<|aQ 5 Z<|y7 (cs:=[.str ⟨#[]⟩,.str ⟨#[]⟩,.str ⟨#[]⟩]) Xi Z Z<|fun i19=>z6<|yf<|yh (i:=6) Z (by kernel_rfl) (by kernel_rfl)<|y1 Ys Z Z Z Z Z Z .t1 Z<|z6<|ym (by kernel_rfl) ?_
               exact ⟨i19,lF,aK,aH,trivial⟩
              ·refine y7 (cs:=[.str ⟨#[]⟩,.str ⟨#[]⟩,.str ⟨#[]⟩]) Xi Z Z<|fun i19=>z6<|aQ 0 Z<|zh (iR) Z<|z6<|ad 3 Z (qe (j:=(f.blocks[j].insts[p].op.toNat)) Xd Ys Z Z (wc hop.1).symm hrow)<|ad 4 Z (yw isAgg154 Ys Z Z)<|yf<|yh (i:=6) Z (by kernel_rfl) (by kernel_rfl)<|y1 Ys Z Z Z Z Z Z .t1 Z<|z6<|ym (by kernel_rfl) ?_
               exact ⟨i19,lF,aK,aH,trivial⟩
             ·rintro i19 _
              refine zd<|zd<|ye (γ:=Unit) [1,3,9,10,12,18,107,108,109,197,198,199] (fun u=>[(258,.bool (nd f f.blocks[j].insts[p]))]) (fun u=>[(i18,.cells 54 (bH f.blocks[j].insts[p])),(i19,.cells 154 (rD (bY f.blocks[j].insts[p].op))),(i12,.cells 51 (dh f.blocks[j]))]) (fun u=>True) ?_ (fun _ _ h=>h) ?_
              ·refine aW<|za (zf j5 Z j7 (by decide) Z Z)<|za (zo (c:=.fro _ _) jf Z ⟨_,.head⟩ Z)<|aq wy Z<|za (zf Y3 Z Y8 (by decide) Z Z)<|za (zo (c:=.str _) Yh Z ⟨_,.t1⟩ Z)<|za (Gv.lenT Zr Z)<|aO Z Z<|aj Z<|zq (s:=223) Z (fun c11=>?_) (fun c11=>?_)
               ·refine z7 Z Z c11<|z7 Z Z c11<|z7 Z Z c11<|z7 Z Z c11<|z7 Z Z c11<|z7 Z Z c11<|z7 Z Z c11<|aw Z c11 Z<|aj Z<|z7 Z Z Z<|z7 Z Z Z<|z7 Z Z Z<|z7 Z Z Z<|zk Z Z<|zk Z Z<|zk Z Z<|zk Z Z<|zk Z Z<|z7 Z Z Z<|aw Z Z Z<|aj Z<|z7 Z Z Z<|z7 Z Z Z<|z7 Z Z Z<|z7 Z Z Z<|zk Z Z<|zk Z Z<|zk Z Z<|z7 Z Z Z<|z7 Z Z Z<|zk Z Z<|zk Z Z<|zk Z Z<|z7 Z Z Z<|aw Z Z Z<|z6 ?_
                exact ⟨(),lF,⟨jb (by simp_all[nd,kn,bc]<;>grind),trivial⟩,aH,trivial⟩
               ·refine z8 Z Z c11<|za (zf Y3 Z Y8 (by decide) Z Z)<|z8 Z Z c11<|za (zo (c:=.str _) Yh Z ⟨_,.t1⟩ Z)<|z8 Z Z c11<|za (q4 Z Z)<|z8 Z Z c11<|za (zf j5 Z wz (by decide) Z Z)<|z8 Z Z c11<|za (zo (c:=.int _ _) j6 Z ⟨_,.head⟩ Z)<|z8 Z Z c11<|ak Z Z<|z8 Z Z c11<|za (Gv.neqB Y7 Z Z)<|ax Z c11 Z<|aj Z<|zq (s:=232) Z (fun c12=>?_) (fun c12=>?_)
                ·refine z7 Z Z c12<|z7 Z Z c12<|z7 Z Z c12<|z7 Z Z c12<|zk Z Z<|zk Z Z<|zk Z Z<|zk Z Z<|zk Z Z<|z7 Z Z c12<|aw Z c12 Z<|aj Z<|z7 Z Z Z<|z7 Z Z Z<|z7 Z Z Z<|z7 Z Z Z<|zk Z Z<|zk Z Z<|zk Z Z<|z7 Z Z Z<|z7 Z Z Z<|zk Z Z<|zk Z Z<|zk Z Z<|z7 Z Z Z<|aw Z Z Z<|z6 ?_
                 exact ⟨(),lF,⟨jb (by simp_all[nd,kn,bc]<;>grind),trivial⟩,aH,trivial⟩
                ·refine z8 Z Z c12<|za (zf j5 Z wz (by decide) Z Z)<|z8 Z Z c12<|za (zo (c:=.int _ _) j6 Z ⟨_,.head⟩ Z)<|z8 Z Z c12<|aO Z Z<|z8 Z Z c12<|aj Z<|zq (s:=236) Z (fun c13=>?_) (fun c13=>?_)
                 ·refine z8 Z Z c13<|za (zf j5 Z wz (by decide) Z Z)<|z8 Z Z c13<|za (zo (c:=.int _ _) j6 Z ⟨_,.head⟩ Z)<|z8 Z Z c13<|aa Z<|z8 Z Z c13<|zh (gl _ _) Z<|z8 Z Z c13<|aC Z<|z8 Z Z c12<|aw Z c13 Z<|ax Z c12 Z<|aj Z<|zq (s:=244) Z (fun c14=>?_) (fun c14=>?_)
                  ·refine z7 Z Z c14<|z7 Z Z c14<|z7 Z Z c14<|z7 Z Z c14<|zk Z Z<|zk Z Z<|zk Z Z<|z7 Z Z c14<|z7 Z Z c14<|zk Z Z<|zk Z Z<|zk Z Z<|z7 Z Z c14<|aw Z c14 Z<|z6 ?_
                   exact ⟨(),lF,⟨jb (by simp_all[nd,kn,bc]<;>grind),trivial⟩,aH,trivial⟩
                  ·refine z8 Z Z c14<|za (zf j5 Z Z5 (by decide) Z Z)<|z8 Z Z c14<|za (zo (c:=.int _ _) Zx Z ⟨_,.head⟩ Z)<|z8 Z Z c14<|aO Z Z<|z8 Z Z c14<|aj Z<|zq (s:=248) Z (fun c15=>?_) (fun c15=>?_)
                   ·refine z8 Z Z c15<|za (zf Y3 Z Y8 (by decide) Z Z)<|z8 Z Z c15<|za (zo (c:=.str _) Yh Z ⟨_,.t1⟩ Z)<|z8 Z Z c15<|za (Gv.neqT Z Z)<|z8 Z Z c14<|aw Z c15 Z<|z8 Z Z c14<|aj Z<|zq (s:=253) Z (fun c16=>?_) (fun c16=>?_)
                    ·refine z8 Z Z c16<|za (zf Y3 Z Y8 (by decide) Z Z)<|z8 Z Z c16<|za (zo (c:=.str _) Yh Z ⟨_,.t1⟩ Z)<|z8 Z Z c16<|za (Gv.neqT Z Z)<|z8 Z Z c14<|aw Z c16 Z<|ax Z c14 Z<|z6 ?_
                     exact ⟨(),lF,⟨jb (by simp_all[nd,kn,bc]<;>grind),trivial⟩,aH,trivial⟩
                    ·refine z7 Z Z c16<|z7 Z Z c16<|z7 Z Z c16<|z8 Z Z c14<|ax Z c16 Z<|ax Z c14 Z<|z6 ?_
                     exact ⟨(),lF,⟨jb (by simp_all[nd,kn,bc]<;>grind),trivial⟩,aH,trivial⟩
                   ·refine z7 Z Z c15<|z7 Z Z c15<|z7 Z Z c15<|z8 Z Z c14<|ax Z c15 Z<|z8 Z Z c14<|aj Z<|z7 Z Z Z<|z7 Z Z Z<|z7 Z Z Z<|z8 Z Z c14<|ax Z Z Z<|ax Z c14 Z<|z6 ?_
                    exact ⟨(),lF,⟨jb (by simp_all[nd,kn,bc]<;>grind),trivial⟩,aH,trivial⟩
                 ·refine z7 Z Z c13<|z7 Z Z c13<|z7 Z Z c13<|z7 Z Z c13<|z7 Z Z c13<|z8 Z Z c12<|ax Z c13 Z<|ax Z c12 Z<|aj Z<|z8 Z Z Z<|za (zf j5 Z Z5 (by decide) Z Z)<|z8 Z Z Z<|za (zo (c:=.int _ _) Zx Z ⟨_,.head⟩ Z)<|z8 Z Z Z<|aO Z Z<|z8 Z Z Z<|aj Z<|zq (s:=248) Z (fun c17=>?_) (fun c17=>?_)
                  ·refine z8 Z Z c17<|za (zf Y3 Z Y8 (by decide) Z Z)<|z8 Z Z c17<|za (zo (c:=.str _) Yh Z ⟨_,.t1⟩ Z)<|z8 Z Z c17<|za (Gv.neqT Z Z)<|z8 Z Z Z<|aw Z c17 Z<|z8 Z Z Z<|aj Z<|zq (s:=253) Z (fun c18=>?_) (fun c18=>?_)
                   ·refine z8 Z Z c18<|za (zf Y3 Z Y8 (by decide) Z Z)<|z8 Z Z c18<|za (zo (c:=.str _) Yh Z ⟨_,.t1⟩ Z)<|z8 Z Z c18<|za (Gv.neqT Z Z)<|z8 Z Z Z<|aw Z c18 Z<|ax Z Z Z<|z6 ?_
                    exact ⟨(),lF,⟨jb (by simp_all[nd,kn,bc]<;>grind),trivial⟩,aH,trivial⟩
                   ·refine z7 Z Z c18<|z7 Z Z c18<|z7 Z Z c18<|z8 Z Z Z<|ax Z c18 Z<|ax Z Z Z<|z6 ?_
                    exact ⟨(),lF,⟨jb (by simp_all[nd,kn,bc]<;>grind),trivial⟩,aH,trivial⟩
                  ·refine z7 Z Z c17<|z7 Z Z c17<|z7 Z Z c17<|z8 Z Z Z<|ax Z c17 Z<|z8 Z Z Z<|aj Z<|z7 Z Z Z<|z7 Z Z Z<|z7 Z Z Z<|z8 Z Z Z<|ax Z Z Z<|ax Z Z Z<|z6 ?_
                   exact ⟨(),lF,⟨jb (by simp_all[nd,kn,bc]<;>grind),trivial⟩,aH,trivial⟩
              ·rintro _ _
               refine zy Z (fun cw=>?_) (fun cw=>?_)
               ·refine ai<|ab Z<|z6<|zg<|zn (x:=.bool _) Z ?_
                rw[w9 (fun h=>by have:=(h.2.2.2.2.2 _ (qx hk2)).2.1 _ (qx hp2);rw[this.2.2.1] at cw;cases cw)]
               ·refine zi<|ai<|za (zf j5 Z j7 (by decide) Z Z)<|za (zo (c:=.fro _ _) jf Z ⟨_,.head⟩ Z)<|aq wy Z<|aa Z<|z6<|zm<|y8 (γ:=Nat) [1,3,9,10,12,107,108,109,197,198,199,260,261] (fun m=>[(262,.int .i64 m)]) (fun m=>[(i18,.cells 54 (bH f.blocks[j].insts[p])),(i12,.cells 51 (dh f.blocks[j]))]) (fun m=>m≤f.blocks[j].insts[p].args.length∧(f.blocks[j].insts[p].args.take m).all (bc f)=true) (fun m=>f.blocks[j].insts[p].args.length - m) 0 aK ⟨_,(.keep (.drop (.refl _))),Z⟩ (⟨qw _,Z⟩) ?_
                rintro m ⟨hm,ha1⟩
                refine ai<|ay Z Z<|z6<|zd<|zt Z (fun cm=>?_) (fun cm=>?_)
                ·have hm1:m<f.blocks[j].insts[p].args.length:=by omega
                 refine zi<|zd<|zm<|ai<|za (qe wy wz Z Z Z (qt (by omega)))<|aA j6 Z<|ao Z<|z6<|ai<|aa Z<|aa Z<|zh (gl _ _) Z<|aC Z<|z6<|zy Z (fun ca=>?_) (fun ca=>?_)
                 ·have ca:bc f f.blocks[j].insts[p].args[m]=false:=by simp[bc] at ca ⊢;omega
                  refine ai<|ab Z<|z6<|zg<|zn (x:=.bool _) Z ?_
                  rw[w9 (fun h=>by have:=(h.2.2.2.2.2 _ (qx hk2)).2.1 _ (qx hp2);have h6:=List.all_eq_true.1 this.2.2.2 _ (qx hm1);rw[ca] at h6;cases h6)]
                 ·have ca:bc f f.blocks[j].insts[p].args[m]=true:=by simp[bc] at ca ⊢;omega
                  refine zi<|aW<|aE Z Z<|aa Z<|z6 ?_
                  exact ⟨m+1,⟨rfl,rfl,rfl,rfl,rfl,rfl,rfl,rfl,rfl,rfl,rfl,rfl,rfl,trivial⟩,aK,aH,⟨hm1,bJ hm1 ha1 ca⟩,by omega⟩
                ·rw[kP (by omega)] at ha1
                 refine y6<|aW<|aE Z Z<|aa Z<|z6 ?_
                 exact ⟨p+1,oc,aK,⟨_,(.drop (.refl _)),rfl⟩,⟨hp2,eQ hp2 hins ⟨hop.1,hop.2,cw,ha1⟩⟩,by omega⟩
          ·rw[kP (by omega)] at hins
           refine y6<|ai<|za (zf ji Z Zo (by decide) Z Z)<|za (Gv.loadAC (l:=[_,_,_,_]) isAgg49 Zo Z ⟨_,.head⟩ Z Z)<|y7 (cs:=[.int .i64 0,.int .i64 0,.int .i64 0,.int .i64 0]) zeroValue49 Z Z<|fun i22=>y1 Zo Z Z Z Z Z Z .head Z<|z6<|ai<|ab Z<|z6<|zd<|ai<|za (zf je Z Y0 (by decide) Z Z)<|za (zo (c:=.int _ _) Ye Z ⟨_,.head⟩ Z)<|z6<|ye (γ:=Unit) [1,3,9,10,107,108,109] (fun u=>[(23,.bool (bC f f.blocks[j].term))]) (fun u=>[]) (fun u=>True) ?_ (fun _ _ h=>h) ?_
           ·refine zm<|ai<|ak Z Z<|ab Z<|z6<|zy Z (fun c19=>?_) (fun c19=>?_)
            ·refine aW<|za (zf je Z Zd (by decide) Z Z)<|za (qh (j:=0) Z1 wz Z Z Z (by decide) Z)<|za (zo (c:=.int _ _) j6 Z ⟨_,.head⟩ Z)<|aa Z<|zh (gl _ _) Z<|aj Z<|zq (s:=283) Z (fun c20=>?_) (fun c20=>?_)
             ·refine z8 Z Z c20<|za (zf je Z Zd (by decide) Z Z)<|z8 Z Z c20<|za (qh (j:=1) Z1 wz Z Z Z (by decide) Z)<|z8 Z Z c20<|za (zo (c:=.int _ _) j6 Z ⟨_,.head⟩ Z)<|z8 Z Z c20<|ak Z Z<|aw Z c20 Z<|aj Z<|zq (s:=289) Z (fun c21=>?_) (fun c21=>?_)
              ·refine z8 Z Z c21<|za (zf je Z wz (by decide) Z Z)<|z8 Z Z c21<|za (zo (c:=.int _ _) j6 Z ⟨_,.head⟩ Z)<|z8 Z Z c21<|ak Z Z<|aw Z c21 Z<|ab Z<|z6 ?_
               exact ⟨(),lf,⟨jb (by simp_all[bC,bc,eL]<;>grind),trivial⟩,⟨_,(.drop (.drop (.refl _))),rfl⟩,trivial⟩
              ·refine z7 Z Z c21<|z7 Z Z c21<|z7 Z Z c21<|ax Z c21 Z<|ab Z<|z6 ?_
               exact ⟨(),lf,⟨jb (by simp_all[bC,bc,eL]<;>grind),trivial⟩,⟨_,(.drop (.drop (.refl _))),rfl⟩,trivial⟩
             ·refine z7 Z Z c20<|z7 Z Z c20<|z7 Z Z c20<|z7 Z Z c20<|ax Z c20 Z<|aj Z<|z7 Z Z Z<|z7 Z Z Z<|z7 Z Z Z<|ax Z Z Z<|ab Z<|z6 ?_
              exact ⟨(),lf,⟨jb (by simp_all[bC,bc,eL]<;>grind),trivial⟩,⟨_,(.drop (.drop (.refl _))),rfl⟩,trivial⟩
            ·refine ai<|ak Z Z<|ab Z<|z6<|zy Z (fun c22=>?_) (fun c22=>?_)
             ·refine aW<|za (zf je Z wz (by decide) Z Z)<|za (zo (c:=.int _ _) j6 Z ⟨_,.head⟩ Z)<|aa Z<|zh (gl _ _) Z<|aj Z<|zq (s:=300) Z (fun c23=>?_) (fun c23=>?_)
              ·refine z8 Z Z c23<|za (zf je Z Zd (by decide) Z Z)<|z8 Z Z c23<|za (qh (j:=0) Z1 wz Z Z Z (by decide) Z)<|z8 Z Z c23<|za (zo (c:=.int _ _) j6 Z ⟨_,.head⟩ Z)<|z8 Z Z c23<|aa Z<|z8 Z Z c23<|zh (gl _ _) Z<|aw Z c23 Z<|aj Z<|zq (s:=307) Z (fun c24=>?_) (fun c24=>?_)
               ·refine z8 Z Z c24<|za (zf je Z Zd (by decide) Z Z)<|z8 Z Z c24<|za (qh (j:=1) Z1 wz Z Z Z (by decide) Z)<|z8 Z Z c24<|za (zo (c:=.int _ _) j6 Z ⟨_,.head⟩ Z)<|z8 Z Z c24<|aa Z<|z8 Z Z c24<|zh (gl _ _) Z<|aw Z c24 Z<|ab Z<|z6 ?_
                exact ⟨(),lf,⟨jb (by simp_all[bC,bc,eL]<;>grind),trivial⟩,⟨_,(.drop (.drop (.refl _))),rfl⟩,trivial⟩
               ·refine z7 Z Z c24<|z7 Z Z c24<|z7 Z Z c24<|z7 Z Z c24<|z7 Z Z c24<|ax Z c24 Z<|ab Z<|z6 ?_
                exact ⟨(),lf,⟨jb (by simp_all[bC,bc,eL]<;>grind),trivial⟩,⟨_,(.drop (.drop (.refl _))),rfl⟩,trivial⟩
              ·refine z7 Z Z c23<|z7 Z Z c23<|z7 Z Z c23<|z7 Z Z c23<|z7 Z Z c23<|ax Z c23 Z<|aj Z<|z7 Z Z Z<|z7 Z Z Z<|z7 Z Z Z<|z7 Z Z Z<|z7 Z Z Z<|ax Z Z Z<|ab Z<|z6 ?_
               exact ⟨(),lf,⟨jb (by simp_all[bC,bc,eL]<;>grind),trivial⟩,⟨_,(.drop (.drop (.refl _))),rfl⟩,trivial⟩
             ·refine ai<|ak Z Z<|ab Z<|z6<|zy Z (fun c25=>?_) (fun c25=>?_)
              ·refine aW<|za (zf je Z wz (by decide) Z Z)<|za (zo (c:=.int _ _) j6 Z ⟨_,.head⟩ Z)<|aa Z<|zh (gl _ _) Z<|aj Z<|zq (s:=320) Z (fun c26=>?_) (fun c26=>?_)
               ·refine z8 Z Z c26<|za (zf je Z Zd (by decide) Z Z)<|z8 Z Z c26<|za (Gv.loadAC (l:=[_,_]) isAgg47 Zd Z ⟨_,.head⟩ Z Z)<|z8 Z Z c26<|za (Gv.buildA (cps:=[]) (rs:=[.int .i64 0,.int .i64 0]) HC Z Z Z)<|z8 Z Z c26<|za (Gv.eqlP (xs:=[.int _ _,.int _ _]) (ys:=[.int _ _,.int _ _]) (by kernel_rfl) Z Z (fun w=>uR _ _ _ _ w))<|aw Z c26 Z<|ab Z<|z6 ?_
                exact ⟨(),lf,⟨jb (by simp_all[bC,bc,eL]<;>grind),trivial⟩,⟨_,(.drop (.drop (.refl _))),rfl⟩,trivial⟩
               ·refine z7 Z Z c26<|z7 Z Z c26<|z7 Z Z c26<|z7 Z Z c26<|ax Z c26 Z<|ab Z<|z6 ?_
                exact ⟨(),lf,⟨jb (by simp_all[bC,bc,eL]<;>grind),trivial⟩,⟨_,(.drop (.drop (.refl _))),rfl⟩,trivial⟩
              ·refine zi ?_
               exact ⟨(),lf,⟨jb (by simp_all[bC,bc,eL]<;>grind),trivial⟩,⟨_,(.drop (.drop (.refl _))),rfl⟩,trivial⟩
           ·rintro _ _
            refine ai<|aj Z<|aC Z<|z6<|zy Z (fun ct=>?_) (fun ct=>?_)
            ·refine ai<|ab Z<|z6<|zg<|zn (x:=.bool _) Z ?_
             rw[w9 (fun h=>by have:=(h.2.2.2.2.2 _ (qx hk2)).2.2;rw[this] at ct;cases ct)]
            ·have ct:bC f f.blocks[j].term=true:=by simpa using ct
             refine zi<|aW<|aE Z Z<|aa Z<|z6 ?_
             exact ⟨j+1,nJ,⟨rfl,(congrArg (AV.int .i64) (by rw[hs1];omega)),trivial⟩,aH,⟨hk2,fun i h hi=>by rcases Nat.lt_or_ge i j with h3|h3;exact hnam i h h3;obtain rfl:i=j:=(by omega);exact ⟨by simpa using cv,hno⟩,by omega,eQ hk2 hblk ⟨hphi,hins,ct⟩⟩,by omega⟩
     ·have hkn:k=f.blocks.length:=by omega
      subst hkn
      rw[qy] at hsum hblk
      refine y6<|ai<|ab Z<|z6<|zg<|zn (x:=.bool _) Z ?_
      rw[w8 (show bR f from ⟨c1,hpars,hvars,fun i h=>hnam i h h,hsum,hblk⟩)]
end Go.Proofs.YtdilpodccjlkgaaGreatDoor
namespace Go.Proofs.YtdilpodccjlkgaaGreatDoor
open Go.Proofs.Tryz
open Go.Proofs Go.Lib Go.Shelf Go.RowKit
set_option maxRecDepth 20000
variable {E:World}
def uT (b:aX):Prop:=b.name.size≤1000∧b.phis.length≤1000∧b.insts.length≤1000∧(∀p∈b.phis,p.args.length≤1000∧p.from_.length≤1000)∧∀x∈b.insts,x.args.length≤1000
def small (f:ac):Prop:=f.vars.length≤1000∧f.params.length≤1000∧f.blocks.length≤1000∧(∀v∈f.vars,v.name.size≤1000)∧∀b∈f.blocks,uT b
theorem small.ok {f:ac} (h:small f):ta f:=by
 obtain ⟨h1,h2,h3,h4,h5⟩:=h
 refine ⟨by unfold pn;omega,by unfold pn;omega,by unfold pn;omega,fun b hb=>?_⟩
 obtain ⟨g1,g2,g3,g4,g5⟩:=h5 b hb
 exact ⟨by unfold pn;omega,by unfold pn;omega,fun p hp=>⟨by have:=g4 p hp;unfold pn;omega,by have:=g4 p hp;unfold pn;omega⟩,fun x hx=>by have:=g5 x hx;unfold pn;omega⟩
theorem small.names {f:ac} (h:small f):mD f:=⟨fun v hv=>by have:=h.2.2.2.1 v hv;omega,fun b hb=>by have:=(h.2.2.2.2 b hb).1;omega⟩
theorem uU {α:Type} {enc:α→List AV} (h:∀x,(enc x).all AV.cell=true) (xs:List α):(xs.map enc).flatten.all AV.cell=true:=by
 induction xs with
 |nil=>rfl
 |cons x xs ih=>simp only[List.map_cons,List.flatten_cons,List.all_append,h,ih,Bool.and_self]
theorem xd (xs:List Int) (hl:xs.length≤1000):aY prog E 120 [.fro 1 (xs.map cX)] [] (fun x O'=>∃i:Nat,x=.own i xs.length∧Left O' [(i,.grow 1 3 (xs.map cX).flatten)]∧True):=by
 refine zp func120 Z (by decide) Z<|ai<|za (jI Z)<|z6<|zd<|ai<|be Z<|az.isNil wy Z Z (fun hnil=>?_) ?_
 ·have hx:xs=[]:=by simpa using hnil
  subst hx
  refine z6<|yt Z Z<|ai<|za (jI Z)<|z6<|zg ?_
  repeat (first|refine gO ?_|refine fA ?_)
  refine rY (s:=2) (k:=1) (T:=3) Z (fun i=>?_)
  refine zn (x:=.own _ _) Z ?_
  exact ⟨i,rfl,.refl _,trivial⟩
 ·refine z6<|yg Z Z<|zi<|ai<|yj (k:=1) wy Y1<|fun i5=>be Z<|yu (k:=1) wy Y1 Z Z Z Z Z (fun _=>.head) (by simp) (by decide) (uU (fun _=>Z) xs) (by show (_+_)*8≤_;simp<;>omega) (by simp<;>omega)<|fun i7=>za (eD Z)<|z6<|zg<|zn (x:=.own _ _) Z ?_
  exact ⟨i7,(by simp),⟨_,.refl _,rfl⟩,trivial⟩
theorem uV (xs:List Int) (hl:xs.length≤1000):aM prog E 120 [.fro 1 (xs.map cX)] (.fro 1 (xs.map cX)):=(xd xs hl).frozen (by simp[cX]) (by decide) (by simp)
end Go.Proofs.YtdilpodccjlkgaaGreatDoor
namespace Go.Proofs.YtdilpodccjlkgaaGreatDoor
open Go.Proofs.Tryz
open Go.Proofs Go.Lib Go.Shelf Go.RowKit
set_option maxRecDepth 20000
variable {E:World}
end Go.Proofs.YtdilpodccjlkgaaGreatDoor
namespace Go.Proofs.YtdilpodccjlkgaaGreatDoor
open Go.Proofs.Tryz
open Go.Proofs Go.Lib Go.Shelf Go.RowKit
set_option maxRecDepth 20000
variable {E:World}
def wV (l:List uF):Nat:=(l.map fun v=>v.name.size).sum
def wP (l:List dG):Nat:=(l.map fun p=>p.args.length+p.from_.length).sum
def wX (l:List aF):Nat:=(l.map fun x=>x.args.length).sum
def wB (b:aX):Nat:=b.name.size+10*(b.phis.length+b.insts.length)+wP b.phis+wX b.insts
def xe (l:List aX):Nat:=(l.map wB).sum
theorem EF {l:List uF} {k:Nat} (h:k<l.length):wV (l.take (k+1))=wV (l.take k)+l[k].name.size:=by
 unfold wV;rw[qu h,w5,List.sum_append];simp only[List.map_cons,List.map_nil,List.sum_cons,List.sum_nil,Nat.add_zero]
theorem EG {l:List dG} {k:Nat} (h:k<l.length):wP (l.take (k+1))=wP (l.take k)+(l[k].args.length+l[k].from_.length):=by
 unfold wP;rw[qu h,w5,List.sum_append];simp only[List.map_cons,List.map_nil,List.sum_cons,List.sum_nil,Nat.add_zero]
theorem EH {l:List aF} {k:Nat} (h:k<l.length):wX (l.take (k+1))=wX (l.take k)+l[k].args.length:=by
 unfold wX;rw[qu h,w5,List.sum_append];simp only[List.map_cons,List.map_nil,List.sum_cons,List.sum_nil,Nat.add_zero]
theorem uW {l:List aX} {k:Nat} (h:k<l.length):xe (l.take (k+1))=xe (l.take k)+wB l[k]:=by
 unfold xe;rw[qu h,w5,List.sum_append];simp only[List.map_cons,List.map_nil,List.sum_cons,List.sum_nil,Nat.add_zero]
def zA (b:aX):Prop:=b.name.size≤400∧b.phis.length≤400∧b.insts.length≤400∧(∀p∈b.phis,p.args.length≤400∧p.from_.length≤400)∧∀x∈b.insts,x.args.length≤400
def ng (f:ac):Prop:=f.vars.length≤100∧f.blocks.length≤40∧f.params.length≤20∧(∀v∈f.vars,v.name.size≤400)∧(∀b∈f.blocks,zA b)∧(f.blocks≠[]→wV f.vars+xe f.blocks≤4000)
theorem ng.small {f:ac} (h:ng f):small f:=by
 obtain ⟨h1,h2,h3,h4,h5,_⟩:=h
 refine ⟨by omega,by omega,by omega,fun v hv=>by have:=h4 v hv;omega,fun b hb=>?_⟩
 obtain ⟨g1,g2,g3,g4,g5⟩:=h5 b hb
 exact ⟨by omega,by omega,by omega,fun p hp=>by have:=g4 p hp;omega,fun x hx=>by have:=g5 x hx;omega⟩
def wL {α:Type} (l:List α):Prop:=l.length≤9223372036854775807
def HE (p:dG):Prop:=wL p.args∧wL p.from_
def HF (b:aX):Prop:=wL b.phis∧wL b.insts∧(∀p∈b.phis,HE p)∧(∀x∈b.insts,wL x.args)
def sr (f:ac):Prop:=wL f.vars∧wL f.params∧wL f.blocks∧∀b∈f.blocks,HF b
theorem wL.lt {α:Type} {l:List α} (h:wL l):l.length≤9223372036854775807:=h
def AY (f:ac):Bool:=decide ((100:Int)<f.vars.length)||(decide ((40:Int)<f.blocks.length)||decide ((20:Int)<f.params.length))
def AZ (b:aX):Bool:=decide ((400:Int)<b.name.size)||(decide ((400:Int)<b.phis.length)||decide ((400:Int)<b.insts.length))
end Go.Proofs.YtdilpodccjlkgaaGreatDoor
namespace Go.Proofs.YtdilpodccjlkgaaGreatDoor
open Go.Proofs.Tryz
open Go.Proofs Go.Lib Go.Shelf Go.RowKit
set_option maxRecDepth 20000
variable {E:World}
end Go.Proofs.YtdilpodccjlkgaaGreatDoor
