/- Lines: the printer's is the document's. No conditions but bounds. -/
import Derived.Test.YtbbonnfjealmpaaGreatDoorZg
import Derived.Test.YtbbonnfjealmpaaGreatDoorZc
set_option linter.unusedVariables false
set_option linter.unusedSimpArgs false
set_option linter.unusedSectionVars false
namespace Go.Proofs.YtbbonnfjealmpaaGreatDoor
section
open Go.Proofs.Tryz
open Go.Proofs Go.Lib Go.Shelf Go.RowKit
set_option maxRecDepth 20000
variable {E:World}
def vt (f:ab) (p:cZ):Prop:=bt f p.dst=true∧p.args.length=p.from_.length∧1≤p.args.length∧p.args.all (bt f)=true∧p.from_.all (eX f)=true
def ll (x:aB):Bool:=decide ((cH x.op).1=⟨#[99,111,110,115,116]⟩)||decide ((cH x.op).1=⟨#[112,105]⟩)
def oK (f:ab) (x:aB):Bool:=!decide ((x.args.length:Int)=((cH x.op).2.1.size:Int))||(!(decide ((cH x.op).2.2=⟨#[]⟩) == decide (x.dst=-1))||((!decide (x.dst=-1)&&!bt f x.dst)||(!decide (x.num=0)&&!ll x)))
def rA (f:ab) (x:aB):Prop:=0≤x.op∧x.op≤26∧oK f x=false∧x.args.all (bt f)=true
def Dc (f:ab) (b:aK):Prop:=(∀p∈b.phis,vt f p)∧(∀x∈b.insts,rA f x)∧bJ f b.term=true
def eG (l:List aK):Nat:=(l.map fun b=>b.phis.length+b.insts.length).sum
def nU (f:ab):Bool:=decide ((512:Int)<f.vars.length)||(decide ((8:Int)<f.params.length)||(decide ((f.vars.length:Int)<f.params.length)||(decide ((f.blocks.length:Int)<1)||decide ((64:Int)<f.blocks.length))))
def Fb (f:ab) (i:Nat) (v:lA):Prop:=nT v.name=true∧0≤v.ty∧v.ty≤2∧∀s∈(f.vars.take i).map (·.name),s≠v.name
def HU (f:ab) (i:Nat) (b:aK):Prop:=nT b.name=true∧∀s∈(f.blocks.take i).map (·.name),s≠b.name
def bH (f:ab):Prop:=nU f=false∧(∀i (h:i<f.params.length),f.params[i]=(i:Int))∧(∀i (h:i<f.vars.length),Fb f i f.vars[i])∧(∀i (h:i<f.blocks.length),HU f i f.blocks[i])∧eG f.blocks≤1024∧∀b∈f.blocks,Dc f b
instance (f:ab) (p:cZ):Decidable (vt f p):=by unfold vt;infer_instance
instance (f:ab) (x:aB):Decidable (rA f x):=by unfold rA;infer_instance
instance (f:ab) (b:aK):Decidable (Dc f b):=by unfold Dc;infer_instance
instance (f:ab) (i:Nat) (v:lA):Decidable (Fb f i v):=by unfold Fb;infer_instance
instance (f:ab) (i:Nat) (b:aK):Decidable (HU f i b):=by unfold HU;infer_instance
instance (f:ab):Decidable (bH f):=by unfold bH;infer_instance
theorem rB (l:List aK) (k:Nat):eG (l.take k)≤eG l:=by
 have:eG l=eG (l.take k)+eG (l.drop k):=by
  unfold eG;rw[←List.sum_append,←wb,List.take_append_drop]
 omega
theorem m8 (l:List aK) (k:Nat) (h:k<l.length):eG (l.take (k+1))=eG (l.take k)+(l[k].phis.length+l[k].insts.length):=by
 unfold eG;rw[qy h,wb,List.sum_append];simp only[List.map_cons,List.map_nil,List.sum_cons,List.sum_nil,Nat.add_zero]
theorem xq {α:Type} {g:α→ByteArray} {l:List α} {k:Nat} {s:ByteArray} (h:k<l.length) (h1:∀x∈(l.take k).map g,x≠s) (h2:¬g l[k]=s):∀x∈(l.take (k+1)).map g,x≠s:=by
 rw[qy h,wb]
 intro x hx
 rcases List.mem_append.1 hx with hx|hx
 ·exact h1 x hx
 ·simp only[List.map_cons,List.map_nil,List.mem_singleton] at hx;rw[hx];exact h2
theorem B5 {α:Type} {g:α→ByteArray} {l:List α} {k i:Nat} {s:ByteArray} (h:k<l.length) (hk:k<i) (h1:∀x∈(l.take i).map g,x≠s):¬g l[k]=s:=by
 refine h1 _ (List.mem_map.2 ⟨l[k],?_,U⟩)
 refine List.mem_iff_getElem?.2 ⟨k,?_⟩
 rw[List.getElem?_take,if_pos hk,qx h]
theorem bS {α:Type} {p:α→Bool} {l:List α} {k:Nat} (h:k<l.length) (h1:(l.take k).all p=true) (h2:p l[k]=true):(l.take (k+1)).all p=true:=by
 rw[qy h,List.all_append,h1];simp[h2]
theorem dI {α:Type} {p:α→Bool} {l:List α} {k:Nat} (h:k<l.length) (h2:p l[k]=false):¬l.all p=true:=fun h3=>by
 have:=List.all_eq_true.1 h3 _ (w3 h);rw[h2] at this;cases this
theorem lV {α:Type} {l:List α} {k:Nat} (h:l.length≤k):l.take k=l:=List.take_of_length_le h
theorem fl {α:Type} {p:α→Prop} {l:List α} {k:Nat} (h:k<l.length) (h1:∀x∈l.take k,p x) (h2:p l[k]):∀x∈l.take (k+1),p x:=by
 rw[qy h]
 intro x hx
 rcases List.mem_append.1 hx with hx|hx
 ·exact h1 x hx
 ·rw[List.mem_singleton.1 hx];exact h2
def nV (f:ab):Prop:=(∀v∈f.vars,v.name.size≤140737488355328)∧∀b∈f.blocks,b.name.size≤140737488355328
set_option maxHeartbeats 8000000 in
theorem rC (f:ab) (hf:ve f) (hn:nV f) (hL:bx E):aP prog E 126 [.agg (bw f)] (.bool (decide (bH f))):=by
 obtain ⟨hf1,hf2,hf3,hf4⟩:=hf
 have hl1:=hf1.lt
 have hl2:=hf2.lt
 have hl3:=hf3.lt
 refine zp func126 U (by decide) U<|ae<|y6 (cs:=_) U U U<|ad U<|z2<|ae<|ak je U Zn U U<|aI Zz U<|aj Z7 U<|am U<|z2<|zb<|zb<|yb (γ:=Unit) [1,3] (fun u=>[(53,.bool (nU f))]) (fun u=>[]) (fun u=>True) ?_ (fun _ _ h=>h) ?_
 ·refine aW<|aa U<|be U U<|aq U<|zt (s:=29) U (fun c1=>?_) (fun c1=>?_)
  ·refine z6 U U c1<|z6 U U c1<|z6 U U c1<|z6 U U c1<|au U c1 U<|aq U<|z6 U U U<|z6 U U U<|z6 U U U<|z6 U U U<|z6 U U U<|au U U U<|aq U<|z6 U U U<|z6 U U U<|z6 U U U<|z6 U U U<|au U U U<|aq U<|z6 U U U<|z6 U U U<|z6 U U U<|z6 U U U<|au U U U<|z2 ?_
   exact ⟨(),b7,⟨jb (by simp_all[nU]<;>grind),trivial⟩,aE,trivial⟩
  ·refine z7 U U c1<|ak je U jh U U<|z7 U U c1<|aI jx U<|z7 U U c1<|aj j7 U<|z7 U U c1<|be U U<|aw U c1 U<|aq U<|zt (s:=35) U (fun c2=>?_) (fun c2=>?_)
   ·refine z6 U U c2<|z6 U U c2<|z6 U U c2<|z6 U U c2<|z6 U U c2<|au U c2 U<|aq U<|z6 U U U<|z6 U U U<|z6 U U U<|z6 U U U<|au U U U<|aq U<|z6 U U U<|z6 U U U<|z6 U U U<|z6 U U U<|au U U U<|z2 ?_
    exact ⟨(),b7,⟨jb (by simp_all[nU]<;>grind),trivial⟩,aE,trivial⟩
   ·refine z7 U U c2<|ak je U jh U U<|z7 U U c2<|aI jx U<|z7 U U c2<|aj j7 U<|z7 U U c2<|aa U<|z7 U U c2<|be U U<|aw U c2 U<|aq U<|zt (s:=42) U (fun c3=>?_) (fun c3=>?_)
    ·refine z6 U U c3<|z6 U U c3<|z6 U U c3<|z6 U U c3<|au U c3 U<|aq U<|z6 U U U<|z6 U U U<|z6 U U U<|z6 U U U<|au U U U<|z2 ?_
     exact ⟨(),b7,⟨jb (by simp_all[nU]<;>grind),trivial⟩,aE,trivial⟩
    ·refine z7 U U c3<|ak je U Zd U U<|z7 U U c3<|aI Zf U<|z7 U U c3<|aj ju U<|z7 U U c3<|ap U U<|aw U c3 U<|aq U<|zt (s:=48) U (fun c4=>?_) (fun c4=>?_)
     ·refine z6 U U c4<|z6 U U c4<|z6 U U c4<|z6 U U c4<|au U c4 U<|z2 ?_
      exact ⟨(),b7,⟨jb (by simp_all[nU]<;>grind),trivial⟩,aE,trivial⟩
     ·refine z7 U U c4<|ak je U Zd U U<|z7 U U c4<|aI Zf U<|z7 U U c4<|aj ju U<|z7 U U c4<|be U U<|aw U c4 U<|z2 ?_
      exact ⟨(),b7,⟨jb (by simp_all[nU]<;>grind),trivial⟩,aE,trivial⟩
 ·rintro _ _
  refine zw U (fun c1=>?_) (fun c1=>?_)
  ·refine ae<|ad U<|z2<|zg<|zm (x:=.bool _) U ?_
   rw[wg (fun h=>by rw[h.1] at c1;cases c1)]
  ·have hsz:f.vars.length≤512∧f.params.length≤8∧f.params.length≤f.vars.length∧1≤f.blocks.length∧f.blocks.length≤64:=by unfold nU at c1;simp at c1;omega
   refine zf<|zb<|ae<|ak je U jh U U<|aI jx U<|aj j7 U<|aa U<|z2<|zi<|y5 (γ:=Nat) [1,3,55,56] (fun k=>[(57,.i k)]) (fun k=>[]) (fun k=>k≤f.params.length∧∀i (h:i<f.params.length),i<k→f.params[i]=(i:Int)) (fun k=>f.params.length - k) 0 aL aE (⟨w2 _,fun i h hk=>by omega⟩) ?_
   rintro k ⟨hk,hpar⟩
   refine ae<|ap U U<|z2<|zb<|zn U (fun ck=>?_) (fun ck=>?_)
   ·have hk2:k<f.params.length:=by omega
    refine zf<|zb<|zi<|ae<|aa U<|z8 (qh j7 j9 U U U (qx (by omega)))<|aA jg U<|am U<|am U<|z2<|ae<|aa U<|aa U<|aO U U<|z2<|zw U (fun cp=>?_) (fun cp=>?_)
    ·refine ae<|ad U<|z2<|zg<|zm (x:=.bool _) U ?_
     rw[wg (fun h=>by have:=h.2.1 k hk2;simp[this] at cp)]
    ·refine zf<|aW<|aC U U<|aa U<|z2 ?_
     exact ⟨k+1,fC,aL,aE,⟨hk2,fun i h hi=>by rcases Nat.lt_or_ge i k with h3|h3;exact hpar i h h3;obtain rfl:i=k:=(by omega);simpa using cp⟩,by omega⟩
   ·have hpars:∀i (h:i<f.params.length),f.params[i]=(i:Int):=fun i h=>hpar i h (by omega)
    refine y4<|zb<|ae<|ak je U Zn U U<|aI Zz U<|aj Z7 U<|aa U<|z2<|zi<|y5 (γ:=Nat) [1,3,67,68] (fun k=>[(69,.i k)]) (fun k=>[]) (fun k=>k≤f.vars.length∧∀i (h:i<f.vars.length),i<k→Fb f i f.vars[i]) (fun k=>f.vars.length - k) 0 aL aE (⟨w2 _,fun i h hk=>by omega⟩) ?_
    rintro k ⟨hk,hvar⟩
    refine ae<|ap U U<|z2<|zb<|zn U (fun ck=>?_) (fun ck=>?_)
    ·have hk2:k<f.vars.length:=by omega
     have hnk:f.vars[k].name.size≤140737488355328:=hn.1 _ (w3 hk2)
     refine zf<|zb<|zi<|ae<|aa U<|z8 (qh Z7 Yf U U U (qx (by omega)))<|ac isAgg48 Yf U U<|zu (cs:=[.e,.int .i64 0]) zeroValue48 U U<|fun i7=>am U<|zj Yf U U U U U U .head U<|z2<|zb<|zb<|yb (γ:=Unit) [1,3,6,7,67,68,69] (fun u=>[(87,.bool (!nT f.vars[k].name||(decide (f.vars[k].ty<0)||decide (2<f.vars[k].ty))))]) (fun u=>[(i7,.cells 48 (bF f.vars[k]))]) (fun u=>True) ?_ (fun _ _ h=>h) ?_
     ·refine aW<|z8 (zh Zt U Y6 (by decide) U U)<|z8 (zq (c:=.str _) Yk U ⟨_,.head⟩ U)<|ze (uw _ (by assumption) hL) U<|aJ U<|aq U<|zt (s:=78) U (fun c5=>?_) (fun c5=>?_)
      ·refine z6 U U c5<|z6 U U c5<|z6 U U c5<|au U c5 U<|aq U<|z6 U U U<|z6 U U U<|z6 U U U<|au U U U<|z2 ?_
       exact ⟨(),lg,⟨jb (by simp_all<;>grind),trivial⟩,aE,trivial⟩
      ·refine z7 U U c5<|z8 (zh Zt U X9 (by decide) U U)<|z7 U U c5<|z8 (zq (c:=.int _ _) Xj U ⟨_,.head⟩ U)<|z7 U U c5<|ap U U<|aw U c5 U<|aq U<|zt (s:=83) U (fun c6=>?_) (fun c6=>?_)
       ·refine z6 U U c6<|z6 U U c6<|z6 U U c6<|au U c6 U<|z2 ?_
        exact ⟨(),lg,⟨jb (by simp_all<;>grind),trivial⟩,aE,trivial⟩
       ·refine z7 U U c6<|z8 (zh Zt U X9 (by decide) U U)<|z7 U U c6<|z8 (zq (c:=.int _ _) Xj U ⟨_,.head⟩ U)<|z7 U U c6<|be U U<|aw U c6 U<|z2 ?_
        exact ⟨(),lg,⟨jb (by simp_all<;>grind),trivial⟩,aE,trivial⟩
     ·rintro _ _
      refine zw U (fun cv=>?_) (fun cv=>?_)
      ·refine ae<|ad U<|z2<|zg<|zm (x:=.bool _) U ?_
       rw[wg (fun h=>by have:=h.2.2.1 k hk2;obtain ⟨h1,h2,h3,_⟩:=this;simp[h1] at cv;omega)]
      ·have hv3:nT f.vars[k].name=true∧0≤f.vars[k].ty∧f.vars[k].ty≤2:=by simp at cv;omega
       refine zf<|ae<|aa U<|aa U<|z2<|zi<|y5 (γ:=Nat) [1,3,7,67,68,69,88] (fun j=>[(89,.i j)]) (fun j=>[(i7,.cells 48 (bF f.vars[k]))]) (fun j=>j≤k∧∀s∈(f.vars.take j).map (·.name),s≠f.vars[k].name) (fun j=>k - j) 0 aL aE (⟨w2 _,by simp⟩) ?_
       rintro j ⟨hj,hno⟩
       refine ae<|ap U U<|z2<|zb<|zn U (fun cj=>?_) (fun cj=>?_)
       ·have hj1:j<f.vars.length:=by omega
        refine zf<|zb<|zi<|ae<|aa U<|am U<|z2<|zb<|zr (fun j=>false) (by kernel_rfl) U (zo (.r (.rest _)))<|ai 0 U (db je U Zn U U)<|ai 1 U (gd Zz U)<|ai 2 U (dx U)<|ai 3 U (qh Z7 Yf U U U (qx (by omega)))<|ai 4 U (db Zt U Y6 U U)<|ai 5 U (qe (c:=.str _) Yk U)<|ai 6 U (zh Zt U Y6 (by decide) U U)<|ai 7 U (zq (c:=.str _) Yk U ⟨_,.head⟩ U)<|ai 8 U (q7 U U)<|bI<|zn U (fun ce=>?_) (fun ce=>?_)
        ·refine ae<|ad U<|z2<|zg<|zm (x:=.bool _) U ?_
         rw[wg (fun h=>by exact B5 (g:=lA.name) hj1 (by omega) (h.2.2.1 k hk2).2.2.2 ce)]
        ·refine zf<|aW<|aC U U<|aa U<|z2 ?_
         exact ⟨j+1,lg,aL,aE,⟨by omega,xq hj1 hno ce⟩,by omega⟩
       ·obtain rfl:j=k:=by omega
        refine y4<|aW<|aC U U<|aa U<|z2 ?_
        exact ⟨j+1,fC,aL,⟨_,(.drop (.refl _)),rfl⟩,⟨hk2,fun i h hi=>by rcases Nat.lt_or_ge i j with h3|h3;exact hvar i h h3;obtain rfl:i=j:=(by omega);exact ⟨hv3.1,hv3.2.1,hv3.2.2,hno⟩⟩,by omega⟩
    ·have hvars:∀i (h:i<f.vars.length),Fb f i f.vars[i]:=fun i h=>hvar i h (by omega)
     refine y4<|ae<|ak je U Zd U U<|aI Zf U<|aj ju U<|am U<|z2<|ae<|am U<|z2<|zb<|ae<|ak je U Zd U U<|aI Zf U<|aj ju U<|aa U<|z2<|zi<|y5 (γ:=Nat) [1,3,9,107,108] (fun g=>[(109,.i g),(10,.i (eG (f.blocks.take g)))]) (fun g=>[]) (fun g=>g≤f.blocks.length∧(∀i (h:i<f.blocks.length),i<g→HU f i f.blocks[i])∧eG (f.blocks.take g)≤1024∧∀b∈f.blocks.take g,Dc f b) (fun g=>f.blocks.length - g) 0 b7 aE (⟨w2 _,fun i h hk=>by omega,by simp[eG],by simp⟩) ?_
     rintro k ⟨hk,hnam,hsum,hblk⟩
     refine ae<|ap U U<|z2<|zb<|zn U (fun ck=>?_) (fun ck=>?_)
     ·have hk2:k<f.blocks.length:=by omega
      have hnk:f.blocks[k].name.size≤140737488355328:=hn.2 _ (w3 hk2)
      obtain ⟨hb1,hb2,hb3,hb4⟩:=hf4 _ (w3 hk2)
      have hl4:=hb1.lt
      have hl5:=hb2.lt
      refine zf<|zb<|zi<|ae<|aa U<|z8 (qh ju Z2 U U U (qx (by omega)))<|ac Yc Z2 U U<|zu (cs:=[.e,.n,.n,.int .i64 0,.int .i64 0,.int .i64 0,.int .i64 0]) Zh U U<|fun i12=>am U<|zj Z2 U U U U U U .head U<|z2<|zb<|ae<|z8 (zh jr U Y6 (by decide) U U)<|z8 (zq (c:=.str _) Yk U ⟨_,.head⟩ U)<|ze (uw _ (by assumption) hL) U<|aJ U<|z2<|zw U (fun cv=>?_) (fun cv=>?_)
      ·refine ae<|ad U<|z2<|zg<|zm (x:=.bool _) U ?_
       rw[wg (fun h=>by have:=(h.2.2.2.1 k hk2).1;simp[this] at cv)]
      ·refine zf<|zb<|ae<|aa U<|aa U<|z2<|zi<|y5 (γ:=Nat) [1,3,9,10,12,107,108,109,118] (fun j=>[(119,.i j)]) (fun j=>[(i12,.cells 59 (bD f.blocks[k]))]) (fun j=>j≤k∧∀s∈(f.blocks.take j).map (·.name),s≠f.blocks[k].name) (fun j=>k - j) 0 aL aE (⟨w2 _,by simp⟩) ?_
       rintro j ⟨hj,hno⟩
       refine ae<|ap U U<|z2<|zb<|zn U (fun cj=>?_) (fun cj=>?_)
       ·have hj1:j<f.blocks.length:=by omega
        refine zf<|zb<|zi<|ae<|aa U<|am U<|z2<|zb<|zr (fun j=>false) (by kernel_rfl) U (zo (.r (.rest _)))<|ai 0 U (db je U Zd U U)<|ai 1 U (gd Zf U)<|ai 2 U (dx U)<|ai 3 U (qh ju Z2 U U U (qx (by omega)))<|ai 4 U (db jr U Y6 U U)<|ai 5 U (qe (c:=.str _) Yk U)<|ai 6 U (zh jr U Y6 (by decide) U U)<|ai 7 U (zq (c:=.str _) Yk U ⟨_,.head⟩ U)<|ai 8 U (q7 U U)<|bI<|zn U (fun ce=>?_) (fun ce=>?_)
        ·refine ae<|ad U<|z2<|zg<|zm (x:=.bool _) U ?_
         rw[wg (fun h=>by exact B5 (g:=aK.name) hj1 (by omega) (h.2.2.2.1 k hk2).2 ce)]
        ·refine zf<|aW<|aC U U<|aa U<|z2 ?_
         exact ⟨j+1,pI,aL,aE,⟨by omega,xq hj1 hno ce⟩,by omega⟩
       ·obtain rfl:j=k:=by omega
        have hs1:=m8 f.blocks j hk2
        refine y4<|ae<|aa U<|z8 (zh jr U Zv (by decide) U U)<|z8 (zq (c:=.fro _ _) Yd U ⟨_,.head⟩ U)<|aj Z8 U<|aC U U<|z8 (zh jr U Zw (by decide) U U)<|z8 (zq (c:=.fro _ _) Y3 U ⟨_,.head⟩ U)<|aj Z6 U<|aC U U<|am U<|z2<|zb<|ae<|aa U<|be U U<|z2<|zn U (fun cs=>?_) (fun cs=>?_)
        ·refine ae<|ad U<|z2<|zg<|zm (x:=.bool _) U ?_
         rw[wg (fun h=>by have:=h.2.2.2.2.1;have:=rB f.blocks (j+1);omega)]
        ·refine zf<|zb<|ae<|z8 (zh jr U Zv (by decide) U U)<|z8 (zq (c:=.fro _ _) Yd U ⟨_,.head⟩ U)<|aj Z8 U<|aa U<|z2<|zi<|y5 (γ:=Nat) [1,3,9,10,12,107,108,109,144,145] (fun p=>[(146,.i p)]) (fun p=>[(i12,.cells 59 (bD f.blocks[j]))]) (fun p=>p≤f.blocks[j].phis.length∧∀q∈f.blocks[j].phis.take p,vt f q) (fun p=>f.blocks[j].phis.length - p) 0 aL aE (⟨w2 _,by simp⟩) ?_
         rintro p ⟨hp,hphi⟩
         refine ae<|ap U U<|z2<|zb<|zn U (fun cp=>?_) (fun cp=>?_)
         ·have hp2:p<f.blocks[j].phis.length:=by omega
          obtain ⟨hq1,hq2⟩:=hb3 _ (w3 hp2)
          have hl6:=hq1.lt
          have hl7:=hq2.lt
          refine zf<|zb<|zi<|ae<|z8 (qh Z8 Ze U U U (qx (by omega)))<|ac Ys Ze U U<|zu (cs:=[.int .i64 0,.n,.n]) Y1 U U<|fun i15=>zj Ze U U U U U U .head U<|z2<|zb<|zb<|yb (γ:=Unit) [1,3,9,10,12,15,107,108,109,144,145,146] (fun u=>[(169,.bool (!bt f f.blocks[j].phis[p].dst||(!decide ((f.blocks[j].phis[p].args.length:Int)=f.blocks[j].phis[p].from_.length)||decide ((f.blocks[j].phis[p].args.length:Int)<1))))]) (fun u=>[(i15,.cells 83 (dA f.blocks[j].phis[p])),(i12,.cells 59 (bD f.blocks[j]))]) (fun u=>True) ?_ (fun _ _ h=>h) ?_
          ·refine aW<|z8 (zh Z4 U j9 (by decide) U U)<|z8 (zq (c:=.int _ _) jg U ⟨_,.head⟩ U)<|aa U<|ze (gQ _ _) U<|aJ U<|aq U<|zt (s:=155) U (fun c7=>?_) (fun c7=>?_)
           ·refine z6 U U c7<|z6 U U c7<|z6 U U c7<|z6 U U c7<|z6 U U c7<|z6 U U c7<|z6 U U c7<|au U c7 U<|aq U<|z6 U U U<|z6 U U U<|z6 U U U<|z6 U U U<|au U U U<|z2 ?_
            exact ⟨(),kF,⟨jb (by simp_all[bt]<;>grind),trivial⟩,aE,trivial⟩
           ·refine z7 U U c7<|z8 (zh Z4 U jh (by decide) U U)<|z7 U U c7<|z8 (zq (c:=.fro _ _) jx U ⟨_,.head⟩ U)<|z7 U U c7<|aj j7 U<|z7 U U c7<|z8 (zh Z4 U jh (by decide) U U)<|z7 U U c7<|z8 (zq (c:=.fro _ _) jx U ⟨_,.head⟩ U)<|z7 U U c7<|aj j7 U<|z7 U U c7<|aO U U<|aw U c7 U<|aq U<|zt (s:=164) U (fun c8=>?_) (fun c8=>?_)
            ·refine z6 U U c8<|z6 U U c8<|z6 U U c8<|z6 U U c8<|au U c8 U<|z2 ?_
             exact ⟨(),kF,⟨jb (by simp_all[bt]<;>grind),trivial⟩,aE,trivial⟩
            ·refine z7 U U c8<|z8 (zh Z4 U jh (by decide) U U)<|z7 U U c8<|z8 (zq (c:=.fro _ _) jx U ⟨_,.head⟩ U)<|z7 U U c8<|aj j7 U<|z7 U U c8<|ap U U<|aw U c8 U<|z2 ?_
             exact ⟨(),kF,⟨jb (by simp_all[bt]<;>grind),trivial⟩,aE,trivial⟩
          ·rintro _ _
           refine zw U (fun cq=>?_) (fun cq=>?_)
           ·refine ae<|ad U<|z2<|zg<|zm (x:=.bool _) U ?_
            rw[wg (fun h=>by have:=(h.2.2.2.2.2 _ (w3 hk2)).1 _ (w3 hp2);obtain ⟨h1,h2,h3,_⟩:=this;rw[h1,h2] at cq;simp only[Bool.not_true,Bool.false_or,decide_true,wm] at cq;omega)]
           ·have hq3:bt f f.blocks[j].phis[p].dst=true∧f.blocks[j].phis[p].args.length=f.blocks[j].phis[p].from_.length∧1≤f.blocks[j].phis[p].args.length:=by
             rcases Bool.or_eq_false_iff.1 cq with ⟨a1,a2⟩
             rcases Bool.or_eq_false_iff.1 a2 with ⟨a3,a4⟩
             exact ⟨by simpa using a1,by simp only[Bool.not_eq_false',wm] at a3;omega,by have:=wl a4;omega⟩
            refine zf<|ae<|z8 (zh Z4 U jh (by decide) U U)<|z8 (zq (c:=.fro _ _) jx U ⟨_,.head⟩ U)<|aj j7 U<|aa U<|z2<|zi<|y5 (γ:=Nat) [1,3,9,10,12,15,107,108,109,144,145,146,172] (fun m=>[(173,.i m)]) (fun m=>[(i15,.cells 83 (dA f.blocks[j].phis[p])),(i12,.cells 59 (bD f.blocks[j]))]) (fun m=>m≤f.blocks[j].phis[p].args.length∧(f.blocks[j].phis[p].args.take m).all (bt f)=true∧(f.blocks[j].phis[p].from_.take m).all (eX f)=true) (fun m=>f.blocks[j].phis[p].args.length - m) 0 aL aE (⟨w2 _,U,U⟩) ?_
            rintro m ⟨hm,ha1,ha2⟩
            refine ae<|ap U U<|z2<|zb<|zn U (fun cm=>?_) (fun cm=>?_)
            ·have hm1:m<f.blocks[j].phis[p].args.length:=by omega
             have hm2:m<f.blocks[j].phis[p].from_.length:=by omega
             refine zf<|zb<|zi<|ae<|aa U<|am U<|z2<|zb<|yb (γ:=Unit) [1,3,9,10,12,15,107,108,109,144,145,146,172,173] (fun u=>[(193,.bool (!bt f f.blocks[j].phis[p].args[m]||!eX f f.blocks[j].phis[p].from_[m]))]) (fun u=>[(i15,.cells 83 (dA f.blocks[j].phis[p])),(i12,.cells 59 (bD f.blocks[j]))]) (fun u=>True) ?_ (fun _ _ h=>h) ?_
             ·refine aW<|z8 (zh Z4 U jh (by decide) U U)<|z8 (zq (c:=.fro _ _) jx U ⟨_,.head⟩ U)<|aa U<|z8 (qh j7 j9 U U U (qx (by omega)))<|aA jg U<|aa U<|ze (gQ _ _) U<|aJ U<|aq U<|zt (s:=184) U (fun c9=>?_) (fun c9=>?_)
              ·refine z6 U U c9<|z6 U U c9<|z6 U U c9<|z6 U U c9<|z6 U U c9<|z6 U U c9<|z6 U U c9<|z6 U U c9<|au U c9 U<|z2 ?_
               exact ⟨(),⟨rfl,rfl,rfl,rfl,rfl,rfl,rfl,rfl,rfl,rfl,rfl,rfl,rfl,rfl,trivial⟩,⟨jb (by simp_all[bt,eX]<;>grind),trivial⟩,aE,trivial⟩
              ·refine z7 U U c9<|z8 (zh Z4 U jh (by decide) U U)<|z7 U U c9<|z8 (zq (c:=.fro _ _) jx U ⟨_,.head⟩ U)<|z7 U U c9<|aa U<|z7 U U c9<|z8 (qh j7 j9 U U U (qx (by omega)))<|z7 U U c9<|aA jg U<|z7 U U c9<|aa U<|z7 U U c9<|ze (gQ _ _) U<|z7 U U c9<|aJ U<|aw U c9 U<|z2 ?_
               exact ⟨(),⟨rfl,rfl,rfl,rfl,rfl,rfl,rfl,rfl,rfl,rfl,rfl,rfl,rfl,rfl,trivial⟩,⟨jb (by simp_all[bt,eX]<;>grind),trivial⟩,aE,trivial⟩
             ·rintro _ _
              refine zw U (fun cw=>?_) (fun cw=>?_)
              ·refine ae<|ad U<|z2<|zg<|zm (x:=.bool _) U ?_
               rw[wg (fun h=>by have:=(h.2.2.2.2.2 _ (w3 hk2)).1 _ (w3 hp2);obtain ⟨_,_,_,h4,h5⟩:=this;have h6:=List.all_eq_true.1 h4 _ (w3 hm1);have h7:=List.all_eq_true.1 h5 _ (w3 hm2);rw[h6,h7] at cw;cases cw)]
              ·refine zf<|aW<|aC U U<|aa U<|z2 ?_
               exact ⟨m+1,⟨rfl,rfl,rfl,rfl,rfl,rfl,rfl,rfl,rfl,rfl,rfl,rfl,rfl,trivial⟩,aL,aE,⟨hm1,bS hm1 ha1 (by simp at cw;exact cw.1),bS hm2 ha2 (by simp at cw;exact cw.2)⟩,by omega⟩
            ·rw[lV (by omega)] at ha1
             rw[lV (by omega)] at ha2
             refine y4<|aW<|aC U U<|aa U<|z2 ?_
             exact ⟨p+1,iS,aL,⟨_,(.drop (.refl _)),rfl⟩,⟨hp2,fl hp2 hphi ⟨hq3.1,hq3.2.1,hq3.2.2,ha1,ha2⟩⟩,by omega⟩
         ·rw[lV (by omega)] at hphi
          refine y4<|zb<|ae<|z8 (zh jr U Zw (by decide) U U)<|z8 (zq (c:=.fro _ _) Y3 U ⟨_,.head⟩ U)<|aj Z6 U<|aa U<|z2<|zi<|y5 (γ:=Nat) [1,3,9,10,12,107,108,109,197,198] (fun p=>[(199,.i p)]) (fun p=>[(i12,.cells 59 (bD f.blocks[j]))]) (fun p=>p≤f.blocks[j].insts.length∧∀q∈f.blocks[j].insts.take p,rA f q) (fun p=>f.blocks[j].insts.length - p) 0 aL aE (⟨w2 _,by simp⟩) ?_
          rintro p ⟨hp,hins⟩
          refine ae<|ap U U<|z2<|zb<|zn U (fun cp=>?_) (fun cp=>?_)
          ·have hp2:p<f.blocks[j].insts.length:=by omega
           have hq1:=hb4 _ (w3 hp2)
           have hl6:=hq1.lt
           refine zf<|zb<|zi<|ae<|z8 (qh Z6 Za U U U (qx (by omega)))<|ac Yj Za U U<|zu (cs:=[.int .i64 0,.int .i64 0,.n,.int .i64 0]) Zr U U<|fun i18=>zj Za U U U U U U .head U<|z2<|zb<|zb<|yb (γ:=Unit) [1,3,9,10,12,18,107,108,109,197,198,199] (fun u=>[(210,.bool (decide (f.blocks[j].insts[p].op<0)||decide (26<f.blocks[j].insts[p].op)))]) (fun u=>[(i18,.cells 51 (bq f.blocks[j].insts[p])),(i12,.cells 59 (bD f.blocks[j]))]) (fun u=>True) ?_ (fun _ _ h=>h) ?_
           ·refine aW<|z8 (zh jd U Zs (by decide) U U)<|z8 (zq (c:=.int _ _) Y2 U ⟨_,.head⟩ U)<|ap U U<|aq U<|zt (s:=206) U (fun c10=>?_) (fun c10=>?_)
            ·refine z6 U U c10<|z6 U U c10<|z6 U U c10<|au U c10 U<|z2 ?_
             exact ⟨(),kF,⟨jb (by simp_all<;>grind),trivial⟩,aE,trivial⟩
            ·refine z7 U U c10<|z8 (zh jd U Zs (by decide) U U)<|z7 U U c10<|z8 (zq (c:=.int _ _) Y2 U ⟨_,.head⟩ U)<|z7 U U c10<|be U U<|aw U c10 U<|z2 ?_
             exact ⟨(),kF,⟨jb (by simp_all<;>grind),trivial⟩,aE,trivial⟩
           ·rintro _ _
            refine zw U (fun cq=>?_) (fun cq=>?_)
            ·refine ae<|ad U<|z2<|zg<|zm (x:=.bool _) U ?_
             rw[wg (fun h=>by have:=(h.2.2.2.2.2 _ (w3 hk2)).2.1 _ (w3 hp2);obtain ⟨h1,h2,_⟩:=this;simp at cq;omega)]
            ·have hop:0≤f.blocks[j].insts[p].op∧f.blocks[j].insts[p].op≤26:=by simp at cq;omega
             have hrow:gS[f.blocks[j].insts[p].op.toNat]?=some (cH f.blocks[j].insts[p].op):=by unfold cH;rw[if_pos hop.1,qx (show _<27 by omega)];rfl
             refine zf<|zb<|yb (γ:=Nat) [1,3,9,10,12,18,107,108,109,197,198,199] (fun i=>[(19,.po i 0)]) (fun i=>[(i18,.cells 51 (bq f.blocks[j].insts[p])),(i,.cells 169 (tx (cH f.blocks[j].insts[p].op))),(i12,.cells 59 (bD f.blocks[j]))]) (fun i=>True) ?_ (fun _ _ h=>h) ?_
             ·refine zr (fun j=>Nat.beq j 6) (by kernel_rfl) U (zo (.r (.rest _)))<|ai 1 U (zh jd U Zs (by decide) U U)<|ai 2 U (zq (c:=.int _ _) Y2 U ⟨_,.head⟩ U)<|yj (i:=0) (j:=5) U U (by kernel_rfl) ?_ ?_
              ·refine ze (kn) U<|z2<|ai 3 U (qh (j:=(f.blocks[j].insts[p].op.toNat)) Xc Yz U U (wj hop.1).symm hrow)<|ai 4 U (yp isAgg169 Yz U U)<|aN 5 U<|zu (cs:=[.e,.e,.e]) Xg U U<|fun i19=>z2<|yc<|yk (i:=6) U (by kernel_rfl) (by kernel_rfl)<|zj Yz U U U U U U .t1 U<|z2<|yf (by kernel_rfl) ?_
               exact ⟨i19,kF,aL,aE,trivial⟩
              ·refine zu (cs:=[.e,.e,.e]) Xg U U<|fun i19=>z2<|aN 0 U<|ze (kn) U<|z2<|ai 3 U (qh (j:=(f.blocks[j].insts[p].op.toNat)) Xc Yz U U (wj hop.1).symm hrow)<|ai 4 U (yp isAgg169 Yz U U)<|yc<|yk (i:=6) U (by kernel_rfl) (by kernel_rfl)<|zj Yz U U U U U U .t1 U<|z2<|yf (by kernel_rfl) ?_
               exact ⟨i19,kF,aL,aE,trivial⟩
             ·rintro i19 _
              refine zb<|zb<|yb (γ:=Unit) [1,3,9,10,12,18,107,108,109,197,198,199] (fun u=>[(258,.bool (oK f f.blocks[j].insts[p]))]) (fun u=>[(i18,.cells 51 (bq f.blocks[j].insts[p])),(i19,.cells 169 (tx (cH f.blocks[j].insts[p].op))),(i12,.cells 59 (bD f.blocks[j]))]) (fun u=>True) ?_ (fun _ _ h=>h) ?_
              ·refine aW<|z8 (zh jd U jh (by decide) U U)<|z8 (zq (c:=.fro _ _) jx U ⟨_,.head⟩ U)<|aj j7 U<|z8 (zh Y7 U Y6 (by decide) U U)<|z8 (zq (c:=.str _) Yk U ⟨_,.t1⟩ U)<|z8 (Gv.lenT Zy U)<|aO U U<|aq U<|zt (s:=223) U (fun c11=>?_) (fun c11=>?_)
               ·refine z6 U U c11<|z6 U U c11<|z6 U U c11<|z6 U U c11<|z6 U U c11<|z6 U U c11<|z6 U U c11<|au U c11 U<|aq U<|z6 U U U<|z6 U U U<|z6 U U U<|z6 U U U<|zk U U<|zk U U<|zk U U<|zk U U<|zk U U<|z6 U U U<|au U U U<|aq U<|z6 U U U<|z6 U U U<|z6 U U U<|z6 U U U<|zk U U<|zk U U<|zk U U<|z6 U U U<|z6 U U U<|zk U U<|zk U U<|zk U U<|z6 U U U<|au U U U<|z2 ?_
                exact ⟨(),kF,⟨jb (by simp_all[oK,ll,bt]<;>grind),trivial⟩,aE,trivial⟩
               ·refine z7 U U c11<|z8 (zh Y7 U Y6 (by decide) U U)<|z7 U U c11<|z8 (zq (c:=.str _) Yk U ⟨_,.t1⟩ U)<|z7 U U c11<|z8 (q7 U U)<|z7 U U c11<|z8 (zh jd U j9 (by decide) U U)<|z7 U U c11<|z8 (zq (c:=.int _ _) jg U ⟨_,.head⟩ U)<|z7 U U c11<|ao U U<|z7 U U c11<|z8 (Gv.neqB Yo U U)<|aw U c11 U<|aq U<|zt (s:=232) U (fun c12=>?_) (fun c12=>?_)
                ·refine z6 U U c12<|z6 U U c12<|z6 U U c12<|z6 U U c12<|zk U U<|zk U U<|zk U U<|zk U U<|zk U U<|z6 U U c12<|au U c12 U<|aq U<|z6 U U U<|z6 U U U<|z6 U U U<|z6 U U U<|zk U U<|zk U U<|zk U U<|z6 U U U<|z6 U U U<|zk U U<|zk U U<|zk U U<|z6 U U U<|au U U U<|z2 ?_
                 exact ⟨(),kF,⟨jb (by simp_all[oK,ll,bt]<;>grind),trivial⟩,aE,trivial⟩
                ·refine z7 U U c12<|z8 (zh jd U j9 (by decide) U U)<|z7 U U c12<|z8 (zq (c:=.int _ _) jg U ⟨_,.head⟩ U)<|z7 U U c12<|aO U U<|z7 U U c12<|aq U<|zt (s:=236) U (fun c13=>?_) (fun c13=>?_)
                 ·refine z7 U U c13<|z8 (zh jd U j9 (by decide) U U)<|z7 U U c13<|z8 (zq (c:=.int _ _) jg U ⟨_,.head⟩ U)<|z7 U U c13<|aa U<|z7 U U c13<|ze (gQ _ _) U<|z7 U U c13<|aJ U<|z7 U U c12<|au U c13 U<|aw U c12 U<|aq U<|zt (s:=244) U (fun c14=>?_) (fun c14=>?_)
                  ·refine z6 U U c14<|z6 U U c14<|z6 U U c14<|z6 U U c14<|zk U U<|zk U U<|zk U U<|z6 U U c14<|z6 U U c14<|zk U U<|zk U U<|zk U U<|z6 U U c14<|au U c14 U<|z2 ?_
                   exact ⟨(),kF,⟨jb (by simp_all[oK,ll,bt]<;>grind),trivial⟩,aE,trivial⟩
                  ·refine z7 U U c14<|z8 (zh jd U Z1 (by decide) U U)<|z7 U U c14<|z8 (zq (c:=.int _ _) Zc U ⟨_,.head⟩ U)<|z7 U U c14<|aO U U<|z7 U U c14<|aq U<|zt (s:=248) U (fun c15=>?_) (fun c15=>?_)
                   ·refine z7 U U c15<|z8 (zh Y7 U Y6 (by decide) U U)<|z7 U U c15<|z8 (zq (c:=.str _) Yk U ⟨_,.t1⟩ U)<|z7 U U c15<|z8 (Gv.neqT U U)<|z7 U U c14<|au U c15 U<|z7 U U c14<|aq U<|zt (s:=253) U (fun c16=>?_) (fun c16=>?_)
                    ·refine z7 U U c16<|z8 (zh Y7 U Y6 (by decide) U U)<|z7 U U c16<|z8 (zq (c:=.str _) Yk U ⟨_,.t1⟩ U)<|z7 U U c16<|z8 (Gv.neqT U U)<|z7 U U c14<|au U c16 U<|aw U c14 U<|z2 ?_
                     exact ⟨(),kF,⟨jb (by simp_all[oK,ll,bt]<;>grind),trivial⟩,aE,trivial⟩
                    ·refine z6 U U c16<|z6 U U c16<|z6 U U c16<|z7 U U c14<|aw U c16 U<|aw U c14 U<|z2 ?_
                     exact ⟨(),kF,⟨jb (by simp_all[oK,ll,bt]<;>grind),trivial⟩,aE,trivial⟩
                   ·refine z6 U U c15<|z6 U U c15<|z6 U U c15<|z7 U U c14<|aw U c15 U<|z7 U U c14<|aq U<|z6 U U U<|z6 U U U<|z6 U U U<|z7 U U c14<|aw U U U<|aw U c14 U<|z2 ?_
                    exact ⟨(),kF,⟨jb (by simp_all[oK,ll,bt]<;>grind),trivial⟩,aE,trivial⟩
                 ·refine z6 U U c13<|z6 U U c13<|z6 U U c13<|z6 U U c13<|z6 U U c13<|z7 U U c12<|aw U c13 U<|aw U c12 U<|aq U<|z7 U U U<|z8 (zh jd U Z1 (by decide) U U)<|z7 U U U<|z8 (zq (c:=.int _ _) Zc U ⟨_,.head⟩ U)<|z7 U U U<|aO U U<|z7 U U U<|aq U<|zt (s:=248) U (fun c17=>?_) (fun c17=>?_)
                  ·refine z7 U U c17<|z8 (zh Y7 U Y6 (by decide) U U)<|z7 U U c17<|z8 (zq (c:=.str _) Yk U ⟨_,.t1⟩ U)<|z7 U U c17<|z8 (Gv.neqT U U)<|z7 U U U<|au U c17 U<|z7 U U U<|aq U<|zt (s:=253) U (fun c18=>?_) (fun c18=>?_)
                   ·refine z7 U U c18<|z8 (zh Y7 U Y6 (by decide) U U)<|z7 U U c18<|z8 (zq (c:=.str _) Yk U ⟨_,.t1⟩ U)<|z7 U U c18<|z8 (Gv.neqT U U)<|z7 U U U<|au U c18 U<|aw U U U<|z2 ?_
                    exact ⟨(),kF,⟨jb (by simp_all[oK,ll,bt]<;>grind),trivial⟩,aE,trivial⟩
                   ·refine z6 U U c18<|z6 U U c18<|z6 U U c18<|z7 U U U<|aw U c18 U<|aw U U U<|z2 ?_
                    exact ⟨(),kF,⟨jb (by simp_all[oK,ll,bt]<;>grind),trivial⟩,aE,trivial⟩
                  ·refine z6 U U c17<|z6 U U c17<|z6 U U c17<|z7 U U U<|aw U c17 U<|z7 U U U<|aq U<|z6 U U U<|z6 U U U<|z6 U U U<|z7 U U U<|aw U U U<|aw U U U<|z2 ?_
                   exact ⟨(),kF,⟨jb (by simp_all[oK,ll,bt]<;>grind),trivial⟩,aE,trivial⟩
              ·rintro _ _
               refine zw U (fun cw=>?_) (fun cw=>?_)
               ·refine ae<|ad U<|z2<|zg<|zm (x:=.bool _) U ?_
                rw[wg (fun h=>by have:=(h.2.2.2.2.2 _ (w3 hk2)).2.1 _ (w3 hp2);rw[this.2.2.1] at cw;cases cw)]
               ·refine zf<|ae<|z8 (zh jd U jh (by decide) U U)<|z8 (zq (c:=.fro _ _) jx U ⟨_,.head⟩ U)<|aj j7 U<|aa U<|z2<|zi<|y5 (γ:=Nat) [1,3,9,10,12,107,108,109,197,198,199,260,261] (fun m=>[(262,.i m)]) (fun m=>[(i18,.cells 51 (bq f.blocks[j].insts[p])),(i12,.cells 59 (bD f.blocks[j]))]) (fun m=>m≤f.blocks[j].insts[p].args.length∧(f.blocks[j].insts[p].args.take m).all (bt f)=true) (fun m=>f.blocks[j].insts[p].args.length - m) 0 aL ⟨_,(.keep (.drop (.refl _))),U⟩ (⟨w2 _,U⟩) ?_
                rintro m ⟨hm,ha1⟩
                refine ae<|ap U U<|z2<|zb<|zn U (fun cm=>?_) (fun cm=>?_)
                ·have hm1:m<f.blocks[j].insts[p].args.length:=by omega
                 refine zf<|zb<|zi<|ae<|z8 (qh j7 j9 U U U (qx (by omega)))<|aA jg U<|am U<|z2<|ae<|aa U<|aa U<|ze (gQ _ _) U<|aJ U<|z2<|zw U (fun ca=>?_) (fun ca=>?_)
                 ·have ca:bt f f.blocks[j].insts[p].args[m]=false:=by simp[bt] at ca ⊢;omega
                  refine ae<|ad U<|z2<|zg<|zm (x:=.bool _) U ?_
                  rw[wg (fun h=>by have:=(h.2.2.2.2.2 _ (w3 hk2)).2.1 _ (w3 hp2);have h6:=List.all_eq_true.1 this.2.2.2 _ (w3 hm1);rw[ca] at h6;cases h6)]
                 ·have ca:bt f f.blocks[j].insts[p].args[m]=true:=by simp[bt] at ca ⊢;omega
                  refine zf<|aW<|aC U U<|aa U<|z2 ?_
                  exact ⟨m+1,⟨rfl,rfl,rfl,rfl,rfl,rfl,rfl,rfl,rfl,rfl,rfl,rfl,rfl,trivial⟩,aL,aE,⟨hm1,bS hm1 ha1 ca⟩,by omega⟩
                ·rw[lV (by omega)] at ha1
                 refine y4<|aW<|aC U U<|aa U<|z2 ?_
                 exact ⟨p+1,iS,aL,⟨_,(.drop (.refl _)),rfl⟩,⟨hp2,fl hp2 hins ⟨hop.1,hop.2,cw,ha1⟩⟩,by omega⟩
          ·rw[lV (by omega)] at hins
           refine y4<|ae<|z8 (zh jr U Zp (by decide) U U)<|z8 (yo (l:=[_,_,_,_]) Xk Zp U ⟨_,.head⟩ U U)<|zu (cs:=[.int .i64 0,.int .i64 0,.int .i64 0,.int .i64 0]) Xf U U<|fun i22=>zj Zp U U U U U U .head U<|z2<|ae<|ad U<|z2<|zb<|ae<|z8 (zh jj U Y4 (by decide) U U)<|z8 (zq (c:=.int _ _) Yi U ⟨_,.head⟩ U)<|z2<|yb (γ:=Unit) [1,3,9,10,107,108,109] (fun u=>[(23,.bool (bJ f f.blocks[j].term))]) (fun u=>[]) (fun u=>True) ?_ (fun _ _ h=>h) ?_
           ·refine zi<|ae<|ao U U<|ad U<|z2<|zw U (fun c19=>?_) (fun c19=>?_)
            ·refine aW<|z8 (zh jj U Zg (by decide) U U)<|z8 (qd (j:=0) Z9 j9 U U U (by decide) U)<|z8 (zq (c:=.int _ _) jg U ⟨_,.head⟩ U)<|aa U<|ze (gQ _ _) U<|aq U<|zt (s:=283) U (fun c20=>?_) (fun c20=>?_)
             ·refine z7 U U c20<|z8 (zh jj U Zg (by decide) U U)<|z7 U U c20<|z8 (qd (j:=1) Z9 j9 U U U (by decide) U)<|z7 U U c20<|z8 (zq (c:=.int _ _) jg U ⟨_,.head⟩ U)<|z7 U U c20<|ao U U<|au U c20 U<|aq U<|zt (s:=289) U (fun c21=>?_) (fun c21=>?_)
              ·refine z7 U U c21<|z8 (zh jj U j9 (by decide) U U)<|z7 U U c21<|z8 (zq (c:=.int _ _) jg U ⟨_,.head⟩ U)<|z7 U U c21<|ao U U<|au U c21 U<|ad U<|z2 ?_
               exact ⟨(),lg,⟨jb (by simp_all[bJ,bt,eX]<;>grind),trivial⟩,⟨_,(.drop (.drop (.refl _))),rfl⟩,trivial⟩
              ·refine z6 U U c21<|z6 U U c21<|z6 U U c21<|aw U c21 U<|ad U<|z2 ?_
               exact ⟨(),lg,⟨jb (by simp_all[bJ,bt,eX]<;>grind),trivial⟩,⟨_,(.drop (.drop (.refl _))),rfl⟩,trivial⟩
             ·refine z6 U U c20<|z6 U U c20<|z6 U U c20<|z6 U U c20<|aw U c20 U<|aq U<|z6 U U U<|z6 U U U<|z6 U U U<|aw U U U<|ad U<|z2 ?_
              exact ⟨(),lg,⟨jb (by simp_all[bJ,bt,eX]<;>grind),trivial⟩,⟨_,(.drop (.drop (.refl _))),rfl⟩,trivial⟩
            ·refine ae<|ao U U<|ad U<|z2<|zw U (fun c22=>?_) (fun c22=>?_)
             ·refine aW<|z8 (zh jj U j9 (by decide) U U)<|z8 (zq (c:=.int _ _) jg U ⟨_,.head⟩ U)<|aa U<|ze (gQ _ _) U<|aq U<|zt (s:=300) U (fun c23=>?_) (fun c23=>?_)
              ·refine z7 U U c23<|z8 (zh jj U Zg (by decide) U U)<|z7 U U c23<|z8 (qd (j:=0) Z9 j9 U U U (by decide) U)<|z7 U U c23<|z8 (zq (c:=.int _ _) jg U ⟨_,.head⟩ U)<|z7 U U c23<|aa U<|z7 U U c23<|ze (gQ _ _) U<|au U c23 U<|aq U<|zt (s:=307) U (fun c24=>?_) (fun c24=>?_)
               ·refine z7 U U c24<|z8 (zh jj U Zg (by decide) U U)<|z7 U U c24<|z8 (qd (j:=1) Z9 j9 U U U (by decide) U)<|z7 U U c24<|z8 (zq (c:=.int _ _) jg U ⟨_,.head⟩ U)<|z7 U U c24<|aa U<|z7 U U c24<|ze (gQ _ _) U<|au U c24 U<|ad U<|z2 ?_
                exact ⟨(),lg,⟨jb (by simp_all[bJ,bt,eX]<;>grind),trivial⟩,⟨_,(.drop (.drop (.refl _))),rfl⟩,trivial⟩
               ·refine z6 U U c24<|z6 U U c24<|z6 U U c24<|z6 U U c24<|z6 U U c24<|aw U c24 U<|ad U<|z2 ?_
                exact ⟨(),lg,⟨jb (by simp_all[bJ,bt,eX]<;>grind),trivial⟩,⟨_,(.drop (.drop (.refl _))),rfl⟩,trivial⟩
              ·refine z6 U U c23<|z6 U U c23<|z6 U U c23<|z6 U U c23<|z6 U U c23<|aw U c23 U<|aq U<|z6 U U U<|z6 U U U<|z6 U U U<|z6 U U U<|z6 U U U<|aw U U U<|ad U<|z2 ?_
               exact ⟨(),lg,⟨jb (by simp_all[bJ,bt,eX]<;>grind),trivial⟩,⟨_,(.drop (.drop (.refl _))),rfl⟩,trivial⟩
             ·refine ae<|ao U U<|ad U<|z2<|zw U (fun c25=>?_) (fun c25=>?_)
              ·refine aW<|z8 (zh jj U j9 (by decide) U U)<|z8 (zq (c:=.int _ _) jg U ⟨_,.head⟩ U)<|aa U<|ze (gQ _ _) U<|aq U<|zt (s:=320) U (fun c26=>?_) (fun c26=>?_)
               ·refine z7 U U c26<|z8 (zh jj U Zg (by decide) U U)<|z7 U U c26<|z8 (yo (l:=[_,_]) isAgg54 Zg U ⟨_,.head⟩ U U)<|z7 U U c26<|z8 (Gv.buildA (cps:=[]) (rs:=[.int .i64 0,.int .i64 0]) Ld U U U)<|z7 U U c26<|z8 (Gv.eqlP (xs:=[.int _ _,.int _ _]) (ys:=[.int _ _,.int _ _]) (by kernel_rfl) U U (fun w=>xm _ _ _ _ w))<|au U c26 U<|ad U<|z2 ?_
                exact ⟨(),lg,⟨jb (by simp_all[bJ,bt,eX]<;>grind),trivial⟩,⟨_,(.drop (.drop (.refl _))),rfl⟩,trivial⟩
               ·refine z6 U U c26<|z6 U U c26<|z6 U U c26<|z6 U U c26<|aw U c26 U<|ad U<|z2 ?_
                exact ⟨(),lg,⟨jb (by simp_all[bJ,bt,eX]<;>grind),trivial⟩,⟨_,(.drop (.drop (.refl _))),rfl⟩,trivial⟩
              ·refine zf ?_
               exact ⟨(),lg,⟨jb (by simp_all[bJ,bt,eX]<;>grind),trivial⟩,⟨_,(.drop (.drop (.refl _))),rfl⟩,trivial⟩
           ·rintro _ _
            refine ae<|aq U<|aJ U<|z2<|zw U (fun ct=>?_) (fun ct=>?_)
            ·refine ae<|ad U<|z2<|zg<|zm (x:=.bool _) U ?_
             rw[wg (fun h=>by have:=(h.2.2.2.2.2 _ (w3 hk2)).2.2;rw[this] at ct;cases ct)]
            ·have ct:bJ f f.blocks[j].term=true:=by simpa using ct
             refine zf<|aW<|aC U U<|aa U<|z2 ?_
             exact ⟨j+1,mI,⟨rfl,(congrArg (AV.int .i64) (by rw[hs1];omega)),trivial⟩,aE,⟨hk2,fun i h hi=>by rcases Nat.lt_or_ge i j with h3|h3;exact hnam i h h3;obtain rfl:i=j:=(by omega);exact ⟨by simpa using cv,hno⟩,by omega,fl hk2 hblk ⟨hphi,hins,ct⟩⟩,by omega⟩
     ·have hkn:k=f.blocks.length:=by omega
      subst hkn
      rw[w4] at hsum hblk
      refine y4<|ae<|ad U<|z2<|zg<|zm (x:=.bool _) U ?_
      rw[we (show bH f from ⟨c1,hpars,hvars,fun i h=>hnam i h h,hsum,hblk⟩)]
end
section
open Go.Proofs.Tryz
open Go.Proofs Go.Lib Go.Shelf Go.RowKit
set_option maxRecDepth 20000
variable {E:World}
def xr (b:aK):Prop:=b.name.size≤1000∧b.phis.length≤1000∧b.insts.length≤1000∧(∀p∈b.phis,p.args.length≤1000∧p.from_.length≤1000)∧∀x∈b.insts,x.args.length≤1000
def small (f:ab):Prop:=f.vars.length≤1000∧f.params.length≤1000∧f.blocks.length≤1000∧(∀v∈f.vars,v.name.size≤1000)∧∀b∈f.blocks,xr b
theorem small.ok {f:ab} (h:small f):ve f:=by
 obtain ⟨h1,h2,h3,h4,h5⟩:=h
 refine ⟨by unfold qX;omega,by unfold qX;omega,by unfold qX;omega,fun b hb=>?_⟩
 obtain ⟨g1,g2,g3,g4,g5⟩:=h5 b hb
 exact ⟨by unfold qX;omega,by unfold qX;omega,fun p hp=>⟨by have:=g4 p hp;unfold qX;omega,by have:=g4 p hp;unfold qX;omega⟩,fun x hx=>by have:=g5 x hx;unfold qX;omega⟩
theorem small.names {f:ab} (h:small f):nV f:=⟨fun v hv=>by have:=h.2.2.2.1 v hv;omega,fun b hb=>by have:=(h.2.2.2.2 b hb).1;omega⟩
theorem lW {α:Type} {enc:α→List AV} (h:∀x,(enc x).all AV.cell=true) (xs:List α):(xs.map enc).flatten.all AV.cell=true:=by
 induction xs with
 |nil=>rfl
 |cons x xs ih=>simp only[List.map_cons,List.flatten_cons,List.all_append,h,ih,Bool.and_self]
end
section
open Go.Proofs.Tryz
open Go.Proofs Go.Lib Go.Shelf Go.RowKit
set_option maxRecDepth 20000
variable {E:World}
end
section
open Go.Proofs.Tryz
open Go.Proofs Go.Lib Go.Shelf Go.RowKit
set_option maxRecDepth 20000
variable {E:World}
def wV (l:List lA):Nat:=(l.map fun v=>v.name.size).sum
def wP (l:List cZ):Nat:=(l.map fun p=>p.args.length+p.from_.length).sum
def wX (l:List aB):Nat:=(l.map fun x=>x.args.length).sum
def wB (b:aK):Nat:=b.name.size+10*(b.phis.length+b.insts.length)+wP b.phis+wX b.insts
def AC (l:List aK):Nat:=(l.map wB).sum
theorem HV {l:List lA} {k:Nat} (h:k<l.length):wV (l.take (k+1))=wV (l.take k)+l[k].name.size:=by
 unfold wV;rw[qy h,wb,List.sum_append];simp only[List.map_cons,List.map_nil,List.sum_cons,List.sum_nil,Nat.add_zero]
theorem HW {l:List cZ} {k:Nat} (h:k<l.length):wP (l.take (k+1))=wP (l.take k)+(l[k].args.length+l[k].from_.length):=by
 unfold wP;rw[qy h,wb,List.sum_append];simp only[List.map_cons,List.map_nil,List.sum_cons,List.sum_nil,Nat.add_zero]
theorem HX {l:List aB} {k:Nat} (h:k<l.length):wX (l.take (k+1))=wX (l.take k)+l[k].args.length:=by
 unfold wX;rw[qy h,wb,List.sum_append];simp only[List.map_cons,List.map_nil,List.sum_cons,List.sum_nil,Nat.add_zero]
theorem xt {l:List aK} {k:Nat} (h:k<l.length):AC (l.take (k+1))=AC (l.take k)+wB l[k]:=by
 unfold AC;rw[qy h,wb,List.sum_append];simp only[List.map_cons,List.map_nil,List.sum_cons,List.sum_nil,Nat.add_zero]
def B6 (b:aK):Prop:=b.name.size≤400∧b.phis.length≤400∧b.insts.length≤400∧(∀p∈b.phis,p.args.length≤400∧p.from_.length≤400)∧∀x∈b.insts,x.args.length≤400
def m9 (f:ab):Prop:=f.vars.length≤100∧f.blocks.length≤40∧f.params.length≤20∧(∀v∈f.vars,v.name.size≤400)∧(∀b∈f.blocks,B6 b)∧(f.blocks≠[]→wV f.vars+AC f.blocks≤4000)
theorem m9.small {f:ab} (h:m9 f):small f:=by
 obtain ⟨h1,h2,h3,h4,h5,_⟩:=h
 refine ⟨by omega,by omega,by omega,fun v hv=>by have:=h4 v hv;omega,fun b hb=>?_⟩
 obtain ⟨g1,g2,g3,g4,g5⟩:=h5 b hb
 exact ⟨by omega,by omega,by omega,fun p hp=>by have:=g4 p hp;omega,fun x hx=>by have:=g5 x hx;omega⟩
def wL {α:Type} (l:List α):Prop:=l.length≤9223372036854775807
def Le (p:cZ):Prop:=wL p.args∧wL p.from_
def Lf (b:aK):Prop:=wL b.phis∧wL b.insts∧(∀p∈b.phis,Le p)∧(∀x∈b.insts,wL x.args)
def ux (f:ab):Prop:=wL f.vars∧wL f.params∧wL f.blocks∧∀b∈f.blocks,Lf b
theorem wL.lt {α:Type} {l:List α} (h:wL l):l.length≤9223372036854775807:=h
def Dd (f:ab):Bool:=decide ((100:Int)<f.vars.length)||(decide ((40:Int)<f.blocks.length)||decide ((20:Int)<f.params.length))
def De (b:aK):Bool:=decide ((400:Int)<b.name.size)||(decide ((400:Int)<b.phis.length)||decide ((400:Int)<b.insts.length))
end
section
open Go.Proofs.Tryz
open Go.Proofs Go.Lib Go.Shelf Go.RowKit
set_option maxRecDepth 20000
variable {E:World}
end
section
open Go.Proofs.Tryz
open Go.Proofs Go.Lib Go.Shelf Go.RowKit
set_option maxRecDepth 20000
variable {E:World}
theorem HY:∀r∈gS,r.1≠⟨#[]⟩:=by decide
theorem HZ {op:Int} (h:0≤op∧op≤26):(cH op).1≠⟨#[]⟩:=by
 have hm:cH op∈gS:=by
  unfold cH
  rw[if_pos h.1,qx (show _<27 by omega)]
  exact w3 _
 exact HY _ hm
theorem Fc:∀j:Nat,j<27→qS (j:Int)=(decide ((cH (j:Int)).1=⟨#[99,111,110,115,116]⟩)||decide ((cH (j:Int)).1=⟨#[112,105]⟩)):=by decide
theorem uy {x:aB} (h:0≤x.op∧x.op≤26):ll x=qS x.op:=by
 have:=Fc x.op.toNat (by omega)
 rw[wj h.1] at this
 unfold ll;exact this.symm
theorem oL (op:Int):(aX op).length=(cH op).2.1.size:=by unfold aX;rw[w6];exact Array.length_toList
theorem Df (b:ByteArray):b.data.toList.isEmpty=decide (b=⟨#[]⟩):=by
 obtain ⟨⟨l⟩⟩:=b
 cases l<;>simp
theorem mx (op:Int):bE op=!decide ((cH op).2.2=⟨#[]⟩):=by unfold bE;rw[Df]
theorem Dg {op:Int} (h:¬(0≤op∧op≤26)):cH op=(⟨#[]⟩,⟨#[]⟩,⟨#[]⟩):=wK (by unfold tw;simp;omega)
theorem rD (f:ab) (x:aB):dY f x=true↔rA f x:=by
 by_cases h:0≤x.op∧x.op≤26
 ·have hw:=HZ h
  have hn:=uy h
  unfold dY gW iu rA oK
  rw[oL,mx,hn]
  by_cases h1:x.args.length=(cH x.op).2.1.size<;>by_cases h2:(cH x.op).2.2=⟨#[]⟩<;>by_cases h3:x.dst=-1<;>by_cases h4:x.num=0<;>by_cases h5:x.args.all (bt f)=true<;>simp_all[Int.ofNat_inj]<;>(try (unfold bt;simp))<;>(try grind)
 ·constructor
  ·intro h2
   have:=Dg h
   unfold dY gW at h2
   rw[this] at h2;simp at h2
  ·intro h2;exact absurd ⟨h2.1,h2.2.1⟩ h
def only (f:ab) (x:aB):ab:={ f with blocks:=[⟨⟨#[111,110,108,121]⟩,[],[x],⟨0,0,0,0⟩⟩] }
def ended (f:ab) (b0:aK) (bs:List aK) (t:fg):ab:={ f with blocks:={ b0 with term:=t }::bs }
end
end Go.Proofs.YtbbonnfjealmpaaGreatDoor
