/- An instruction's line by the document; an end's line; the chapter's example. No conditions but bounds. -/
import Derived.Test.YtdilpodccjlkgaaGreatDoorHg
import Derived.Test.YtdilpodccjlkgaaGreatDoorHb
set_option linter.unusedVariables false
set_option linter.unusedSimpArgs false
set_option linter.unusedSectionVars false
namespace Go.Proofs.YtdilpodccjlkgaaGreatDoor
open Go.Proofs.Tryz
open Go.Proofs Go.Lib Go.Shelf Go.RowKit
set_option maxRecDepth 20000
variable {E:World}
def vE (f:ad) (p:e7):Prop:=aZ f p.dst=true∧p.args.length=p.from_.length∧1≤p.args.length∧p.args.all (aZ f)=true∧p.from_.all (eO f)=true
def jR (x:aF):Bool:=decide ((cJ x.op).1=⟨#[99,111,110,115,116]⟩)||decide ((cJ x.op).1=⟨#[112,105]⟩)
def mN (f:ad) (x:aF):Bool:=!decide ((x.args.length:Int)=((cJ x.op).2.1.size:Int))||(!(decide ((cJ x.op).2.2=⟨#[]⟩) == decide (x.dst=-1))||((!decide (x.dst=-1)&&!aZ f x.dst)||(!decide (x.num=0)&&!jR x)))
def oM (f:ad) (x:aF):Prop:=0≤x.op∧x.op≤26∧mN f x=false∧x.args.all (aZ f)=true
def yN (f:ad) (b:aY):Prop:=(∀p∈b.phis,vE f p)∧(∀x∈b.insts,oM f x)∧bM f b.term=true
def fh (l:List aY):Nat:=(l.map fun b=>b.phis.length+b.insts.length).sum
def nC (f:ad):Bool:=decide ((512:Int)<f.vars.length)||(decide ((8:Int)<f.params.length)||(decide ((f.vars.length:Int)<f.params.length)||(decide ((f.blocks.length:Int)<1)||decide ((64:Int)<f.blocks.length))))
def Bl (f:ad) (i:Nat) (v:tF):Prop:=me v.name=true∧0≤v.ty∧v.ty≤2∧∀s∈(f.vars.take i).map (·.name),s≠v.name
def Db (f:ad) (i:Nat) (b:aY):Prop:=me b.name=true∧∀s∈(f.blocks.take i).map (·.name),s≠b.name
def b8 (f:ad):Prop:=nC f=false∧(∀i (h:i<f.params.length),f.params[i]=(i:Int))∧(∀i (h:i<f.vars.length),Bl f i f.vars[i])∧(∀i (h:i<f.blocks.length),Db f i f.blocks[i])∧fh f.blocks≤1024∧∀b∈f.blocks,yN f b
instance (f:ad) (p:e7):Decidable (vE f p):=by unfold vE;infer_instance
instance (f:ad) (x:aF):Decidable (oM f x):=by unfold oM;infer_instance
instance (f:ad) (b:aY):Decidable (yN f b):=by unfold yN;infer_instance
instance (f:ad) (i:Nat) (v:tF):Decidable (Bl f i v):=by unfold Bl;infer_instance
instance (f:ad) (i:Nat) (b:aY):Decidable (Db f i b):=by unfold Db;infer_instance
instance (f:ad):Decidable (b8 f):=by unfold b8;infer_instance
theorem vF (l:List aY) (k:Nat):fh (l.take k)≤fh l:=by
 have:fh l=fh (l.take k)+fh (l.drop k):=by
  unfold fh;rw[←List.sum_append,←qv,List.take_append_drop]
 omega
theorem oN (l:List aY) (k:Nat) (h:k<l.length):fh (l.take (k+1))=fh (l.take k)+(l[k].phis.length+l[k].insts.length):=by
 unfold fh;rw[ql h,qv,List.sum_append];simp only[List.map_cons,List.map_nil,List.sum_cons,List.sum_nil,Nat.add_zero]
theorem tS {α:Type} {g:α→ByteArray} {l:List α} {k:Nat} {s:ByteArray} (h:k<l.length) (h1:∀x∈(l.take k).map g,x≠s) (h2:¬g l[k]=s):∀x∈(l.take (k+1)).map g,x≠s:=by
 rw[ql h,qv]
 intro x hx
 rcases List.mem_append.1 hx with hx|hx
 ·exact h1 x hx
 ·simp only[List.map_cons,List.map_nil,List.mem_singleton] at hx;rw[hx];exact h2
theorem xc {α:Type} {g:α→ByteArray} {l:List α} {k i:Nat} {s:ByteArray} (h:k<l.length) (hk:k<i) (h1:∀x∈(l.take i).map g,x≠s):¬g l[k]=s:=by
 refine h1 _ (List.mem_map.2 ⟨l[k],?_,U⟩)
 refine List.mem_iff_getElem?.2 ⟨k,?_⟩
 rw[List.getElem?_take,if_pos hk,qk h]
theorem bN {α:Type} {p:α→Bool} {l:List α} {k:Nat} (h:k<l.length) (h1:(l.take k).all p=true) (h2:p l[k]=true):(l.take (k+1)).all p=true:=by
 rw[ql h,List.all_append,h1];simp[h2]
theorem dh {α:Type} {p:α→Bool} {l:List α} {k:Nat} (h:k<l.length) (h2:p l[k]=false):¬l.all p=true:=fun h3=>by
 have:=List.all_eq_true.1 h3 _ (qo h);rw[h2] at this;cases this
theorem kr {α:Type} {l:List α} {k:Nat} (h:l.length≤k):l.take k=l:=List.take_of_length_le h
theorem eD {α:Type} {p:α→Prop} {l:List α} {k:Nat} (h:k<l.length) (h1:∀x∈l.take k,p x) (h2:p l[k]):∀x∈l.take (k+1),p x:=by
 rw[ql h]
 intro x hx
 rcases List.mem_append.1 hx with hx|hx
 ·exact h1 x hx
 ·rw[List.mem_singleton.1 hx];exact h2
def mf (f:ad):Prop:=(∀v∈f.vars,v.name.size≤140737488355328)∧∀b∈f.blocks,b.name.size≤140737488355328
set_option maxHeartbeats 8000000 in
theorem oO (f:ad) (hf:sd f) (hn:mf f) (hL:bB E):aK prog E 122 [.agg (bD f)] (.bool (decide (b8 f))):=by
 obtain ⟨hf1,hf2,hf3,hf4⟩:=hf
 have hl1:=hf1.lt
 have hl2:=hf2.lt
 have hl3:=hf3.lt
 refine zq func122 U (by decide) U<|ae<|y9 (cs:=_) U U U<|ab U<|z6<|ae<|ao jg U Y4 U U<|aI Yb U<|ar Z7 U<|ap U<|z6<|zd<|zd<|ya (γ:=Unit) [1,3] (fun u=>[(53,.bool (nC f))]) (fun u=>[]) (fun u=>True) ?_ (fun _ _ h=>h) ?_
 ·refine aO<|aa U<|bb U U<|aj U<|zo (s:=29) U (fun c1=>?_) (fun c1=>?_)
  ·refine z7 U U c1<|z7 U U c1<|z7 U U c1<|z7 U U c1<|aq U c1 U<|aj U<|z7 U U U<|z7 U U U<|z7 U U U<|z7 U U U<|z7 U U U<|aq U U U<|aj U<|z7 U U U<|z7 U U U<|z7 U U U<|z7 U U U<|aq U U U<|aj U<|z7 U U U<|z7 U U U<|z7 U U U<|z7 U U U<|aq U U U<|z6 ?_
   exact ⟨(),cV,⟨jb (by simp_all[nC]<;>grind),trivial⟩,aD,trivial⟩
  ·refine z8 U U c1<|ao jg U j8 U U<|z8 U U c1<|aI j9 U<|z8 U U c1<|ar wz U<|z8 U U c1<|bb U U<|au U c1 U<|aj U<|zo (s:=35) U (fun c2=>?_) (fun c2=>?_)
   ·refine z7 U U c2<|z7 U U c2<|z7 U U c2<|z7 U U c2<|z7 U U c2<|aq U c2 U<|aj U<|z7 U U U<|z7 U U U<|z7 U U U<|z7 U U U<|aq U U U<|aj U<|z7 U U U<|z7 U U U<|z7 U U U<|z7 U U U<|aq U U U<|z6 ?_
    exact ⟨(),cV,⟨jb (by simp_all[nC]<;>grind),trivial⟩,aD,trivial⟩
   ·refine z8 U U c2<|ao jg U j8 U U<|z8 U U c2<|aI j9 U<|z8 U U c2<|ar wz U<|z8 U U c2<|aa U<|z8 U U c2<|bb U U<|au U c2 U<|aj U<|zo (s:=42) U (fun c3=>?_) (fun c3=>?_)
    ·refine z7 U U c3<|z7 U U c3<|z7 U U c3<|z7 U U c3<|aq U c3 U<|aj U<|z7 U U U<|z7 U U U<|z7 U U U<|z7 U U U<|aq U U U<|z6 ?_
     exact ⟨(),cV,⟨jb (by simp_all[nC]<;>grind),trivial⟩,aD,trivial⟩
    ·refine z8 U U c3<|ao jg U Z6 U U<|z8 U U c3<|aI Zd U<|z8 U U c3<|ar jk U<|z8 U U c3<|ax U U<|au U c3 U<|aj U<|zo (s:=48) U (fun c4=>?_) (fun c4=>?_)
     ·refine z7 U U c4<|z7 U U c4<|z7 U U c4<|z7 U U c4<|aq U c4 U<|z6 ?_
      exact ⟨(),cV,⟨jb (by simp_all[nC]<;>grind),trivial⟩,aD,trivial⟩
     ·refine z8 U U c4<|ao jg U Z6 U U<|z8 U U c4<|aI Zd U<|z8 U U c4<|ar jk U<|z8 U U c4<|bb U U<|au U c4 U<|z6 ?_
      exact ⟨(),cV,⟨jb (by simp_all[nC]<;>grind),trivial⟩,aD,trivial⟩
 ·rintro _ _
  refine zy U (fun c1=>?_) (fun c1=>?_)
  ·refine ae<|ab U<|z6<|zi<|zm (x:=.bool _) U ?_
   rw[qy (fun h=>by rw[h.1] at c1;cases c1)]
  ·have hsz:f.vars.length≤512∧f.params.length≤8∧f.params.length≤f.vars.length∧1≤f.blocks.length∧f.blocks.length≤64:=by unfold nC at c1;simp at c1;omega
   refine zg<|zd<|ae<|ao jg U j8 U U<|aI j9 U<|ar wz U<|aa U<|z6<|zj<|y8 (γ:=Nat) [1,3,55,56] (fun k=>[(57,.int .i64 k)]) (fun k=>[]) (fun k=>k≤f.params.length∧∀i (h:i<f.params.length),i<k→f.params[i]=(i:Int)) (fun k=>f.params.length - k) 0 aH aD (⟨qn _,fun i h hk=>by omega⟩) ?_
   rintro k ⟨hk,hpar⟩
   refine ae<|ax U U<|z6<|zd<|zu U (fun ck=>?_) (fun ck=>?_)
   ·have hk2:k<f.params.length:=by omega
    refine zg<|zd<|zj<|ae<|aa U<|za (qa wz j6 U U U (qk (by omega)))<|ay j7 U<|ap U<|ap U<|z6<|ae<|aa U<|aa U<|aM U U<|z6<|zy U (fun cp=>?_) (fun cp=>?_)
    ·refine ae<|ab U<|z6<|zi<|zm (x:=.bool _) U ?_
     rw[qy (fun h=>by have:=h.2.1 k hk2;simp[this] at cp)]
    ·refine zg<|aO<|aC U U<|aa U<|z6 ?_
     exact ⟨k+1,fl,aH,aD,⟨hk2,fun i h hi=>by rcases Nat.lt_or_ge i k with h3|h3;exact hpar i h h3;obtain rfl:i=k:=(by omega);simpa using cp⟩,by omega⟩
   ·have hpars:∀i (h:i<f.params.length),f.params[i]=(i:Int):=fun i h=>hpar i h (by omega)
    refine y7<|zd<|ae<|ao jg U Y4 U U<|aI Yb U<|ar Z7 U<|aa U<|z6<|zj<|y8 (γ:=Nat) [1,3,67,68] (fun k=>[(69,.int .i64 k)]) (fun k=>[]) (fun k=>k≤f.vars.length∧∀i (h:i<f.vars.length),i<k→Bl f i f.vars[i]) (fun k=>f.vars.length - k) 0 aH aD (⟨qn _,fun i h hk=>by omega⟩) ?_
    rintro k ⟨hk,hvar⟩
    refine ae<|ax U U<|z6<|zd<|zu U (fun ck=>?_) (fun ck=>?_)
    ·have hk2:k<f.vars.length:=by omega
     have hnk:f.vars[k].name.size≤140737488355328:=hn.1 _ (qo hk2)
     refine zg<|zd<|zj<|ae<|aa U<|za (qa Z7 Y1 U U U (qk (by omega)))<|ac isAgg61 Y1 U U<|y6 (cs:=[.str ⟨#[]⟩,.int .i64 0]) X7 U U<|fun i7=>ap U<|y1 Y1 U U U U U U .head U<|z6<|zd<|zd<|ya (γ:=Unit) [1,3,6,7,67,68,69] (fun u=>[(87,.bool (!me f.vars[k].name||(decide (f.vars[k].ty<0)||decide (2<f.vars[k].ty))))]) (fun u=>[(i7,.cells 61 (fq f.vars[k]))]) (fun u=>True) ?_ (fun _ _ h=>h) ?_
     ·refine aO<|za (zn Zi U Y3 (by decide) U U)<|za (zt (c:=.str _) Y9 U ⟨_,.head⟩ U)<|ze (rr _ (by assumption) hL) U<|aB U<|aj U<|zo (s:=78) U (fun c5=>?_) (fun c5=>?_)
      ·refine z7 U U c5<|z7 U U c5<|z7 U U c5<|aq U c5 U<|aj U<|z7 U U U<|z7 U U U<|z7 U U U<|aq U U U<|z6 ?_
       exact ⟨(),lf,⟨jb (by simp_all<;>grind),trivial⟩,aD,trivial⟩
      ·refine z8 U U c5<|za (zn Zi U Yq (by decide) U U)<|z8 U U c5<|za (zt (c:=.int _ _) X4 U ⟨_,.head⟩ U)<|z8 U U c5<|ax U U<|au U c5 U<|aj U<|zo (s:=83) U (fun c6=>?_) (fun c6=>?_)
       ·refine z7 U U c6<|z7 U U c6<|z7 U U c6<|aq U c6 U<|z6 ?_
        exact ⟨(),lf,⟨jb (by simp_all<;>grind),trivial⟩,aD,trivial⟩
       ·refine z8 U U c6<|za (zn Zi U Yq (by decide) U U)<|z8 U U c6<|za (zt (c:=.int _ _) X4 U ⟨_,.head⟩ U)<|z8 U U c6<|bb U U<|au U c6 U<|z6 ?_
        exact ⟨(),lf,⟨jb (by simp_all<;>grind),trivial⟩,aD,trivial⟩
     ·rintro _ _
      refine zy U (fun cv=>?_) (fun cv=>?_)
      ·refine ae<|ab U<|z6<|zi<|zm (x:=.bool _) U ?_
       rw[qy (fun h=>by have:=h.2.2.1 k hk2;obtain ⟨h1,h2,h3,_⟩:=this;simp[h1] at cv;omega)]
      ·have hv3:me f.vars[k].name=true∧0≤f.vars[k].ty∧f.vars[k].ty≤2:=by simp at cv;omega
       refine zg<|ae<|aa U<|aa U<|z6<|zj<|y8 (γ:=Nat) [1,3,7,67,68,69,88] (fun j=>[(89,.int .i64 j)]) (fun j=>[(i7,.cells 61 (fq f.vars[k]))]) (fun j=>j≤k∧∀s∈(f.vars.take j).map (·.name),s≠f.vars[k].name) (fun j=>k - j) 0 aH aD (⟨qn _,by simp⟩) ?_
       rintro j ⟨hj,hno⟩
       refine ae<|ax U U<|z6<|zd<|zu U (fun cj=>?_) (fun cj=>?_)
       ·have hj1:j<f.vars.length:=by omega
        refine zg<|zd<|zj<|ae<|aa U<|ap U<|z6<|zd<|zw (fun j=>false) (by kernel_rfl) U (zh (.r (.rest _)))<|ak 0 U (bx jg U Y4 U U)<|ak 1 U (dx Yb U)<|ak 2 U (dq U)<|ak 3 U (qa Z7 Y1 U U U (qk (by omega)))<|ak 4 U (bx Zi U Y3 U U)<|ak 5 U (yn (c:=.str _) Y9 U)<|ak 6 U (zn Zi U Y3 (by decide) U U)<|ak 7 U (zt (c:=.str _) Y9 U ⟨_,.head⟩ U)<|ak 8 U (Gv.eqlT U U)<|bY<|zu U (fun ce=>?_) (fun ce=>?_)
        ·refine ae<|ab U<|z6<|zi<|zm (x:=.bool _) U ?_
         rw[qy (fun h=>by exact xc (g:=tF.name) hj1 (by omega) (h.2.2.1 k hk2).2.2.2 ce)]
        ·refine zg<|aO<|aC U U<|aa U<|z6 ?_
         exact ⟨j+1,lf,aH,aD,⟨by omega,tS hj1 hno ce⟩,by omega⟩
       ·obtain rfl:j=k:=by omega
        refine y7<|aO<|aC U U<|aa U<|z6 ?_
        exact ⟨j+1,fl,aH,⟨_,(.drop (.refl _)),rfl⟩,⟨hk2,fun i h hi=>by rcases Nat.lt_or_ge i j with h3|h3;exact hvar i h h3;obtain rfl:i=j:=(by omega);exact ⟨hv3.1,hv3.2.1,hv3.2.2,hno⟩⟩,by omega⟩
    ·have hvars:∀i (h:i<f.vars.length),Bl f i f.vars[i]:=fun i h=>hvar i h (by omega)
     refine y7<|ae<|ao jg U Z6 U U<|aI Zd U<|ar jk U<|ap U<|z6<|ae<|ap U<|z6<|zd<|ae<|ao jg U Z6 U U<|aI Zd U<|ar jk U<|aa U<|z6<|zj<|y8 (γ:=Nat) [1,3,9,107,108] (fun g=>[(109,.int .i64 g),(10,.int .i64 (fh (f.blocks.take g)))]) (fun g=>[]) (fun g=>g≤f.blocks.length∧(∀i (h:i<f.blocks.length),i<g→Db f i f.blocks[i])∧fh (f.blocks.take g)≤1024∧∀b∈f.blocks.take g,yN f b) (fun g=>f.blocks.length - g) 0 cV aD (⟨qn _,fun i h hk=>by omega,by simp[fh],by simp⟩) ?_
     rintro k ⟨hk,hnam,hsum,hblk⟩
     refine ae<|ax U U<|z6<|zd<|zu U (fun ck=>?_) (fun ck=>?_)
     ·have hk2:k<f.blocks.length:=by omega
      have hnk:f.blocks[k].name.size≤140737488355328:=hn.2 _ (qo hk2)
      obtain ⟨hb1,hb2,hb3,hb4⟩:=hf4 _ (qo hk2)
      have hl4:=hb1.lt
      have hl5:=hb2.lt
      refine zg<|zd<|zj<|ae<|aa U<|za (qa jk Z0 U U U (qk (by omega)))<|ac Yk Z0 U U<|y6 (cs:=[.str ⟨#[]⟩,.raw (.slice none 0 0),.raw (.slice none 0 0),.int .i64 0,.int .i64 0,.int .i64 0,.int .i64 0]) Zn U U<|fun i12=>ap U<|y1 Z0 U U U U U U .head U<|z6<|zd<|ae<|za (zn jj U Y3 (by decide) U U)<|za (zt (c:=.str _) Y9 U ⟨_,.head⟩ U)<|ze (rr _ (by assumption) hL) U<|aB U<|z6<|zy U (fun cv=>?_) (fun cv=>?_)
      ·refine ae<|ab U<|z6<|zi<|zm (x:=.bool _) U ?_
       rw[qy (fun h=>by have:=(h.2.2.2.1 k hk2).1;simp[this] at cv)]
      ·refine zg<|zd<|ae<|aa U<|aa U<|z6<|zj<|y8 (γ:=Nat) [1,3,9,10,12,107,108,109,118] (fun j=>[(119,.int .i64 j)]) (fun j=>[(i12,.cells 51 (cZ f.blocks[k]))]) (fun j=>j≤k∧∀s∈(f.blocks.take j).map (·.name),s≠f.blocks[k].name) (fun j=>k - j) 0 aH aD (⟨qn _,by simp⟩) ?_
       rintro j ⟨hj,hno⟩
       refine ae<|ax U U<|z6<|zd<|zu U (fun cj=>?_) (fun cj=>?_)
       ·have hj1:j<f.blocks.length:=by omega
        refine zg<|zd<|zj<|ae<|aa U<|ap U<|z6<|zd<|zw (fun j=>false) (by kernel_rfl) U (zh (.r (.rest _)))<|ak 0 U (bx jg U Z6 U U)<|ak 1 U (dx Zd U)<|ak 2 U (dq U)<|ak 3 U (qa jk Z0 U U U (qk (by omega)))<|ak 4 U (bx jj U Y3 U U)<|ak 5 U (yn (c:=.str _) Y9 U)<|ak 6 U (zn jj U Y3 (by decide) U U)<|ak 7 U (zt (c:=.str _) Y9 U ⟨_,.head⟩ U)<|ak 8 U (Gv.eqlT U U)<|bY<|zu U (fun ce=>?_) (fun ce=>?_)
        ·refine ae<|ab U<|z6<|zi<|zm (x:=.bool _) U ?_
         rw[qy (fun h=>by exact xc (g:=aY.name) hj1 (by omega) (h.2.2.2.1 k hk2).2 ce)]
        ·refine zg<|aO<|aC U U<|aa U<|z6 ?_
         exact ⟨j+1,n8,aH,aD,⟨by omega,tS hj1 hno ce⟩,by omega⟩
       ·obtain rfl:j=k:=by omega
        have hs1:=oN f.blocks j hk2
        refine y7<|ae<|aa U<|za (zn jj U Yg (by decide) U U)<|za (zt (c:=.fro _ _) Ys U ⟨_,.head⟩ U)<|ar Z5 U<|aC U U<|za (zn jj U Zo (by decide) U U)<|za (zt (c:=.fro _ _) Zx U ⟨_,.head⟩ U)<|ar jz U<|aC U U<|ap U<|z6<|zd<|ae<|aa U<|bb U U<|z6<|zu U (fun cs=>?_) (fun cs=>?_)
        ·refine ae<|ab U<|z6<|zi<|zm (x:=.bool _) U ?_
         rw[qy (fun h=>by have:=h.2.2.2.2.1;have:=vF f.blocks (j+1);omega)]
        ·refine zg<|zd<|ae<|za (zn jj U Yg (by decide) U U)<|za (zt (c:=.fro _ _) Ys U ⟨_,.head⟩ U)<|ar Z5 U<|aa U<|z6<|zj<|y8 (γ:=Nat) [1,3,9,10,12,107,108,109,144,145] (fun p=>[(146,.int .i64 p)]) (fun p=>[(i12,.cells 51 (cZ f.blocks[j]))]) (fun p=>p≤f.blocks[j].phis.length∧∀q∈f.blocks[j].phis.take p,vE f q) (fun p=>f.blocks[j].phis.length - p) 0 aH aD (⟨qn _,by simp⟩) ?_
         rintro p ⟨hp,hphi⟩
         refine ae<|ax U U<|z6<|zd<|zu U (fun cp=>?_) (fun cp=>?_)
         ·have hp2:p<f.blocks[j].phis.length:=by omega
          obtain ⟨hq1,hq2⟩:=hb3 _ (qo hp2)
          have hl6:=hq1.lt
          have hl7:=hq2.lt
          refine zg<|zd<|zj<|ae<|za (qa Z5 Zf U U U (qk (by omega)))<|ac X0 Zf U U<|y6 (cs:=[.int .i64 0,.raw (.slice none 0 0),.raw (.slice none 0 0)]) Yc U U<|fun i15=>y1 Zf U U U U U U .head U<|z6<|zd<|zd<|ya (γ:=Unit) [1,3,9,10,12,15,107,108,109,144,145,146] (fun u=>[(169,.bool (!aZ f f.blocks[j].phis[p].dst||(!decide ((f.blocks[j].phis[p].args.length:Int)=f.blocks[j].phis[p].from_.length)||decide ((f.blocks[j].phis[p].args.length:Int)<1))))]) (fun u=>[(i15,.cells 63 (eN f.blocks[j].phis[p])),(i12,.cells 51 (cZ f.blocks[j]))]) (fun u=>True) ?_ (fun _ _ h=>h) ?_
          ·refine aO<|za (zn Z3 U j6 (by decide) U U)<|za (zt (c:=.int _ _) j7 U ⟨_,.head⟩ U)<|aa U<|ze (fV _ _) U<|aB U<|aj U<|zo (s:=155) U (fun c7=>?_) (fun c7=>?_)
           ·refine z7 U U c7<|z7 U U c7<|z7 U U c7<|z7 U U c7<|z7 U U c7<|z7 U U c7<|z7 U U c7<|aq U c7 U<|aj U<|z7 U U U<|z7 U U U<|z7 U U U<|z7 U U U<|aq U U U<|z6 ?_
            exact ⟨(),iP,⟨jb (by simp_all[aZ]<;>grind),trivial⟩,aD,trivial⟩
           ·refine z8 U U c7<|za (zn Z3 U j8 (by decide) U U)<|z8 U U c7<|za (zt (c:=.fro _ _) j9 U ⟨_,.head⟩ U)<|z8 U U c7<|ar wz U<|z8 U U c7<|za (zn Z3 U j8 (by decide) U U)<|z8 U U c7<|za (zt (c:=.fro _ _) j9 U ⟨_,.head⟩ U)<|z8 U U c7<|ar wz U<|z8 U U c7<|aM U U<|au U c7 U<|aj U<|zo (s:=164) U (fun c8=>?_) (fun c8=>?_)
            ·refine z7 U U c8<|z7 U U c8<|z7 U U c8<|z7 U U c8<|aq U c8 U<|z6 ?_
             exact ⟨(),iP,⟨jb (by simp_all[aZ]<;>grind),trivial⟩,aD,trivial⟩
            ·refine z8 U U c8<|za (zn Z3 U j8 (by decide) U U)<|z8 U U c8<|za (zt (c:=.fro _ _) j9 U ⟨_,.head⟩ U)<|z8 U U c8<|ar wz U<|z8 U U c8<|ax U U<|au U c8 U<|z6 ?_
             exact ⟨(),iP,⟨jb (by simp_all[aZ]<;>grind),trivial⟩,aD,trivial⟩
          ·rintro _ _
           refine zy U (fun cq=>?_) (fun cq=>?_)
           ·refine ae<|ab U<|z6<|zi<|zm (x:=.bool _) U ?_
            rw[qy (fun h=>by have:=(h.2.2.2.2.2 _ (qo hk2)).1 _ (qo hp2);obtain ⟨h1,h2,h3,_⟩:=this;rw[h1,h2] at cq;simp only[Bool.not_true,Bool.false_or,decide_true,w6] at cq;omega)]
           ·have hq3:aZ f f.blocks[j].phis[p].dst=true∧f.blocks[j].phis[p].args.length=f.blocks[j].phis[p].from_.length∧1≤f.blocks[j].phis[p].args.length:=by
             rcases Bool.or_eq_false_iff.1 cq with ⟨a1,a2⟩
             rcases Bool.or_eq_false_iff.1 a2 with ⟨a3,a4⟩
             exact ⟨by simpa using a1,by simp only[Bool.not_eq_false',w6] at a3;omega,by have:=w5 a4;omega⟩
            refine zg<|ae<|za (zn Z3 U j8 (by decide) U U)<|za (zt (c:=.fro _ _) j9 U ⟨_,.head⟩ U)<|ar wz U<|aa U<|z6<|zj<|y8 (γ:=Nat) [1,3,9,10,12,15,107,108,109,144,145,146,172] (fun m=>[(173,.int .i64 m)]) (fun m=>[(i15,.cells 63 (eN f.blocks[j].phis[p])),(i12,.cells 51 (cZ f.blocks[j]))]) (fun m=>m≤f.blocks[j].phis[p].args.length∧(f.blocks[j].phis[p].args.take m).all (aZ f)=true∧(f.blocks[j].phis[p].from_.take m).all (eO f)=true) (fun m=>f.blocks[j].phis[p].args.length - m) 0 aH aD (⟨qn _,U,U⟩) ?_
            rintro m ⟨hm,ha1,ha2⟩
            refine ae<|ax U U<|z6<|zd<|zu U (fun cm=>?_) (fun cm=>?_)
            ·have hm1:m<f.blocks[j].phis[p].args.length:=by omega
             have hm2:m<f.blocks[j].phis[p].from_.length:=by omega
             refine zg<|zd<|zj<|ae<|aa U<|ap U<|z6<|zd<|ya (γ:=Unit) [1,3,9,10,12,15,107,108,109,144,145,146,172,173] (fun u=>[(193,.bool (!aZ f f.blocks[j].phis[p].args[m]||!eO f f.blocks[j].phis[p].from_[m]))]) (fun u=>[(i15,.cells 63 (eN f.blocks[j].phis[p])),(i12,.cells 51 (cZ f.blocks[j]))]) (fun u=>True) ?_ (fun _ _ h=>h) ?_
             ·refine aO<|za (zn Z3 U j8 (by decide) U U)<|za (zt (c:=.fro _ _) j9 U ⟨_,.head⟩ U)<|aa U<|za (qa wz j6 U U U (qk (by omega)))<|ay j7 U<|aa U<|ze (fV _ _) U<|aB U<|aj U<|zo (s:=184) U (fun c9=>?_) (fun c9=>?_)
              ·refine z7 U U c9<|z7 U U c9<|z7 U U c9<|z7 U U c9<|z7 U U c9<|z7 U U c9<|z7 U U c9<|z7 U U c9<|aq U c9 U<|z6 ?_
               exact ⟨(),⟨rfl,rfl,rfl,rfl,rfl,rfl,rfl,rfl,rfl,rfl,rfl,rfl,rfl,rfl,trivial⟩,⟨jb (by simp_all[aZ,eO]<;>grind),trivial⟩,aD,trivial⟩
              ·refine z8 U U c9<|za (zn Z3 U j8 (by decide) U U)<|z8 U U c9<|za (zt (c:=.fro _ _) j9 U ⟨_,.head⟩ U)<|z8 U U c9<|aa U<|z8 U U c9<|za (qa wz j6 U U U (qk (by omega)))<|z8 U U c9<|ay j7 U<|z8 U U c9<|aa U<|z8 U U c9<|ze (fV _ _) U<|z8 U U c9<|aB U<|au U c9 U<|z6 ?_
               exact ⟨(),⟨rfl,rfl,rfl,rfl,rfl,rfl,rfl,rfl,rfl,rfl,rfl,rfl,rfl,rfl,trivial⟩,⟨jb (by simp_all[aZ,eO]<;>grind),trivial⟩,aD,trivial⟩
             ·rintro _ _
              refine zy U (fun cw=>?_) (fun cw=>?_)
              ·refine ae<|ab U<|z6<|zi<|zm (x:=.bool _) U ?_
               rw[qy (fun h=>by have:=(h.2.2.2.2.2 _ (qo hk2)).1 _ (qo hp2);obtain ⟨_,_,_,h4,h5⟩:=this;have h6:=List.all_eq_true.1 h4 _ (qo hm1);have h7:=List.all_eq_true.1 h5 _ (qo hm2);rw[h6,h7] at cw;cases cw)]
              ·refine zg<|aO<|aC U U<|aa U<|z6 ?_
               exact ⟨m+1,⟨rfl,rfl,rfl,rfl,rfl,rfl,rfl,rfl,rfl,rfl,rfl,rfl,rfl,trivial⟩,aH,aD,⟨hm1,bN hm1 ha1 (by simp at cw;exact cw.1),bN hm2 ha2 (by simp at cw;exact cw.2)⟩,by omega⟩
            ·rw[kr (by omega)] at ha1
             rw[kr (by omega)] at ha2
             refine y7<|aO<|aC U U<|aa U<|z6 ?_
             exact ⟨p+1,nv,aH,⟨_,(.drop (.refl _)),rfl⟩,⟨hp2,eD hp2 hphi ⟨hq3.1,hq3.2.1,hq3.2.2,ha1,ha2⟩⟩,by omega⟩
         ·rw[kr (by omega)] at hphi
          refine y7<|zd<|ae<|za (zn jj U Zo (by decide) U U)<|za (zt (c:=.fro _ _) Zx U ⟨_,.head⟩ U)<|ar jz U<|aa U<|z6<|zj<|y8 (γ:=Nat) [1,3,9,10,12,107,108,109,197,198] (fun p=>[(199,.int .i64 p)]) (fun p=>[(i12,.cells 51 (cZ f.blocks[j]))]) (fun p=>p≤f.blocks[j].insts.length∧∀q∈f.blocks[j].insts.take p,oM f q) (fun p=>f.blocks[j].insts.length - p) 0 aH aD (⟨qn _,by simp⟩) ?_
          rintro p ⟨hp,hins⟩
          refine ae<|ax U U<|z6<|zd<|zu U (fun cp=>?_) (fun cp=>?_)
          ·have hp2:p<f.blocks[j].insts.length:=by omega
           have hq1:=hb4 _ (qo hp2)
           have hl6:=hq1.lt
           refine zg<|zd<|zj<|ae<|za (qa jz jv U U U (qk (by omega)))<|ac Zk jv U U<|y6 (cs:=[.int .i64 0,.int .i64 0,.raw (.slice none 0 0),.int .i64 0]) Z4 U U<|fun i18=>y1 jv U U U U U U .head U<|z6<|zd<|zd<|ya (γ:=Unit) [1,3,9,10,12,18,107,108,109,197,198,199] (fun u=>[(210,.bool (decide (f.blocks[j].insts[p].op<0)||decide (26<f.blocks[j].insts[p].op)))]) (fun u=>[(i18,.cells 54 (aP f.blocks[j].insts[p])),(i12,.cells 51 (cZ f.blocks[j]))]) (fun u=>True) ?_ (fun _ _ h=>h) ?_
           ·refine aO<|za (zn j5 U jy (by decide) U U)<|za (zt (c:=.int _ _) Z2 U ⟨_,.head⟩ U)<|ax U U<|aj U<|zo (s:=206) U (fun c10=>?_) (fun c10=>?_)
            ·refine z7 U U c10<|z7 U U c10<|z7 U U c10<|aq U c10 U<|z6 ?_
             exact ⟨(),iP,⟨jb (by simp_all<;>grind),trivial⟩,aD,trivial⟩
            ·refine z8 U U c10<|za (zn j5 U jy (by decide) U U)<|z8 U U c10<|za (zt (c:=.int _ _) Z2 U ⟨_,.head⟩ U)<|z8 U U c10<|bb U U<|au U c10 U<|z6 ?_
             exact ⟨(),iP,⟨jb (by simp_all<;>grind),trivial⟩,aD,trivial⟩
           ·rintro _ _
            refine zy U (fun cq=>?_) (fun cq=>?_)
            ·refine ae<|ab U<|z6<|zi<|zm (x:=.bool _) U ?_
             rw[qy (fun h=>by have:=(h.2.2.2.2.2 _ (qo hk2)).2.1 _ (qo hp2);obtain ⟨h1,h2,_⟩:=this;simp at cq;omega)]
            ·have hop:0≤f.blocks[j].insts[p].op∧f.blocks[j].insts[p].op≤26:=by simp at cq;omega
             have hrow:gk[f.blocks[j].insts[p].op.toNat]?=some (cJ f.blocks[j].insts[p].op):=by unfold cJ;rw[if_pos hop.1,qk (show _<27 by omega)];rfl
             refine zg<|zd<|ya (γ:=Nat) [1,3,9,10,12,18,107,108,109,197,198,199] (fun i=>[(19,.po i 0)]) (fun i=>[(i18,.cells 54 (aP f.blocks[j].insts[p])),(i,.cells 154 (p9 (cJ f.blocks[j].insts[p].op))),(i12,.cells 51 (cZ f.blocks[j]))]) (fun i=>True) ?_ (fun _ _ h=>h) ?_
             ·refine zw (fun j=>Nat.beq j 6) (by kernel_rfl) U (zh (.r (.rest _)))<|ak 1 U (zn j5 U jy (by decide) U U)<|ak 2 U (zt (c:=.int _ _) Z2 U ⟨_,.head⟩ U)<|yq (i:=0) (j:=5) U U (by kernel_rfl) ?_ ?_
              ·refine ze (kV) U<|z6<|ak 3 U (qa (j:=(f.blocks[j].insts[p].op.toNat)) underlying155 Yj U U (Int.toNat_of_nonneg hop.1).symm hrow)<|ak 4 U (yr isAgg154 Yj U U)<|ba 5 U<|y6 (cs:=[.str ⟨#[]⟩,.str ⟨#[]⟩,.str ⟨#[]⟩]) X9 U U<|fun i19=>z6<|ym<|yi (i:=6) U (by kernel_rfl) (by kernel_rfl)<|y1 Yj U U U U U U .t1 U<|z6<|yo (by kernel_rfl) ?_
               exact ⟨i19,iP,aH,aD,trivial⟩
              ·refine y6 (cs:=[.str ⟨#[]⟩,.str ⟨#[]⟩,.str ⟨#[]⟩]) X9 U U<|fun i19=>z6<|ba 0 U<|ze (kV) U<|z6<|ak 3 U (qa (j:=(f.blocks[j].insts[p].op.toNat)) underlying155 Yj U U (Int.toNat_of_nonneg hop.1).symm hrow)<|ak 4 U (yr isAgg154 Yj U U)<|ym<|yi (i:=6) U (by kernel_rfl) (by kernel_rfl)<|y1 Yj U U U U U U .t1 U<|z6<|yo (by kernel_rfl) ?_
               exact ⟨i19,iP,aH,aD,trivial⟩
             ·rintro i19 _
              refine zd<|zd<|ya (γ:=Unit) [1,3,9,10,12,18,107,108,109,197,198,199] (fun u=>[(258,.bool (mN f f.blocks[j].insts[p]))]) (fun u=>[(i18,.cells 54 (aP f.blocks[j].insts[p])),(i19,.cells 154 (p9 (cJ f.blocks[j].insts[p].op))),(i12,.cells 51 (cZ f.blocks[j]))]) (fun u=>True) ?_ (fun _ _ h=>h) ?_
              ·refine aO<|za (zn j5 U j8 (by decide) U U)<|za (zt (c:=.fro _ _) j9 U ⟨_,.head⟩ U)<|ar wz U<|za (zn Y2 U Y3 (by decide) U U)<|za (zt (c:=.str _) Y9 U ⟨_,.t1⟩ U)<|za (Gv.lenT Zr U)<|aM U U<|aj U<|zo (s:=223) U (fun c11=>?_) (fun c11=>?_)
               ·refine z7 U U c11<|z7 U U c11<|z7 U U c11<|z7 U U c11<|z7 U U c11<|z7 U U c11<|z7 U U c11<|aq U c11 U<|aj U<|z7 U U U<|z7 U U U<|z7 U U U<|z7 U U U<|zk U U<|zk U U<|zk U U<|zk U U<|zk U U<|z7 U U U<|aq U U U<|aj U<|z7 U U U<|z7 U U U<|z7 U U U<|z7 U U U<|zk U U<|zk U U<|zk U U<|z7 U U U<|z7 U U U<|zk U U<|zk U U<|zk U U<|z7 U U U<|aq U U U<|z6 ?_
                exact ⟨(),iP,⟨jb (by simp_all[mN,jR,aZ]<;>grind),trivial⟩,aD,trivial⟩
               ·refine z8 U U c11<|za (zn Y2 U Y3 (by decide) U U)<|z8 U U c11<|za (zt (c:=.str _) Y9 U ⟨_,.t1⟩ U)<|z8 U U c11<|za (Gv.eqlT U U)<|z8 U U c11<|za (zn j5 U j6 (by decide) U U)<|z8 U U c11<|za (zt (c:=.int _ _) j7 U ⟨_,.head⟩ U)<|z8 U U c11<|ai U U<|z8 U U c11<|za (Gv.neqB Y0 U U)<|au U c11 U<|aj U<|zo (s:=232) U (fun c12=>?_) (fun c12=>?_)
                ·refine z7 U U c12<|z7 U U c12<|z7 U U c12<|z7 U U c12<|zk U U<|zk U U<|zk U U<|zk U U<|zk U U<|z7 U U c12<|aq U c12 U<|aj U<|z7 U U U<|z7 U U U<|z7 U U U<|z7 U U U<|zk U U<|zk U U<|zk U U<|z7 U U U<|z7 U U U<|zk U U<|zk U U<|zk U U<|z7 U U U<|aq U U U<|z6 ?_
                 exact ⟨(),iP,⟨jb (by simp_all[mN,jR,aZ]<;>grind),trivial⟩,aD,trivial⟩
                ·refine z8 U U c12<|za (zn j5 U j6 (by decide) U U)<|z8 U U c12<|za (zt (c:=.int _ _) j7 U ⟨_,.head⟩ U)<|z8 U U c12<|aM U U<|z8 U U c12<|aj U<|zo (s:=236) U (fun c13=>?_) (fun c13=>?_)
                 ·refine z8 U U c13<|za (zn j5 U j6 (by decide) U U)<|z8 U U c13<|za (zt (c:=.int _ _) j7 U ⟨_,.head⟩ U)<|z8 U U c13<|aa U<|z8 U U c13<|ze (fV _ _) U<|z8 U U c13<|aB U<|z8 U U c12<|aq U c13 U<|au U c12 U<|aj U<|zo (s:=244) U (fun c14=>?_) (fun c14=>?_)
                  ·refine z7 U U c14<|z7 U U c14<|z7 U U c14<|z7 U U c14<|zk U U<|zk U U<|zk U U<|z7 U U c14<|z7 U U c14<|zk U U<|zk U U<|zk U U<|z7 U U c14<|aq U c14 U<|z6 ?_
                   exact ⟨(),iP,⟨jb (by simp_all[mN,jR,aZ]<;>grind),trivial⟩,aD,trivial⟩
                  ·refine z8 U U c14<|za (zn j5 U Za (by decide) U U)<|z8 U U c14<|za (zt (c:=.int _ _) Zj U ⟨_,.head⟩ U)<|z8 U U c14<|aM U U<|z8 U U c14<|aj U<|zo (s:=248) U (fun c15=>?_) (fun c15=>?_)
                   ·refine z8 U U c15<|za (zn Y2 U Y3 (by decide) U U)<|z8 U U c15<|za (zt (c:=.str _) Y9 U ⟨_,.t1⟩ U)<|z8 U U c15<|za (Gv.neqT U U)<|z8 U U c14<|aq U c15 U<|z8 U U c14<|aj U<|zo (s:=253) U (fun c16=>?_) (fun c16=>?_)
                    ·refine z8 U U c16<|za (zn Y2 U Y3 (by decide) U U)<|z8 U U c16<|za (zt (c:=.str _) Y9 U ⟨_,.t1⟩ U)<|z8 U U c16<|za (Gv.neqT U U)<|z8 U U c14<|aq U c16 U<|au U c14 U<|z6 ?_
                     exact ⟨(),iP,⟨jb (by simp_all[mN,jR,aZ]<;>grind),trivial⟩,aD,trivial⟩
                    ·refine z7 U U c16<|z7 U U c16<|z7 U U c16<|z8 U U c14<|au U c16 U<|au U c14 U<|z6 ?_
                     exact ⟨(),iP,⟨jb (by simp_all[mN,jR,aZ]<;>grind),trivial⟩,aD,trivial⟩
                   ·refine z7 U U c15<|z7 U U c15<|z7 U U c15<|z8 U U c14<|au U c15 U<|z8 U U c14<|aj U<|z7 U U U<|z7 U U U<|z7 U U U<|z8 U U c14<|au U U U<|au U c14 U<|z6 ?_
                    exact ⟨(),iP,⟨jb (by simp_all[mN,jR,aZ]<;>grind),trivial⟩,aD,trivial⟩
                 ·refine z7 U U c13<|z7 U U c13<|z7 U U c13<|z7 U U c13<|z7 U U c13<|z8 U U c12<|au U c13 U<|au U c12 U<|aj U<|z8 U U U<|za (zn j5 U Za (by decide) U U)<|z8 U U U<|za (zt (c:=.int _ _) Zj U ⟨_,.head⟩ U)<|z8 U U U<|aM U U<|z8 U U U<|aj U<|zo (s:=248) U (fun c17=>?_) (fun c17=>?_)
                  ·refine z8 U U c17<|za (zn Y2 U Y3 (by decide) U U)<|z8 U U c17<|za (zt (c:=.str _) Y9 U ⟨_,.t1⟩ U)<|z8 U U c17<|za (Gv.neqT U U)<|z8 U U U<|aq U c17 U<|z8 U U U<|aj U<|zo (s:=253) U (fun c18=>?_) (fun c18=>?_)
                   ·refine z8 U U c18<|za (zn Y2 U Y3 (by decide) U U)<|z8 U U c18<|za (zt (c:=.str _) Y9 U ⟨_,.t1⟩ U)<|z8 U U c18<|za (Gv.neqT U U)<|z8 U U U<|aq U c18 U<|au U U U<|z6 ?_
                    exact ⟨(),iP,⟨jb (by simp_all[mN,jR,aZ]<;>grind),trivial⟩,aD,trivial⟩
                   ·refine z7 U U c18<|z7 U U c18<|z7 U U c18<|z8 U U U<|au U c18 U<|au U U U<|z6 ?_
                    exact ⟨(),iP,⟨jb (by simp_all[mN,jR,aZ]<;>grind),trivial⟩,aD,trivial⟩
                  ·refine z7 U U c17<|z7 U U c17<|z7 U U c17<|z8 U U U<|au U c17 U<|z8 U U U<|aj U<|z7 U U U<|z7 U U U<|z7 U U U<|z8 U U U<|au U U U<|au U U U<|z6 ?_
                   exact ⟨(),iP,⟨jb (by simp_all[mN,jR,aZ]<;>grind),trivial⟩,aD,trivial⟩
              ·rintro _ _
               refine zy U (fun cw=>?_) (fun cw=>?_)
               ·refine ae<|ab U<|z6<|zi<|zm (x:=.bool _) U ?_
                rw[qy (fun h=>by have:=(h.2.2.2.2.2 _ (qo hk2)).2.1 _ (qo hp2);rw[this.2.2.1] at cw;cases cw)]
               ·refine zg<|ae<|za (zn j5 U j8 (by decide) U U)<|za (zt (c:=.fro _ _) j9 U ⟨_,.head⟩ U)<|ar wz U<|aa U<|z6<|zj<|y8 (γ:=Nat) [1,3,9,10,12,107,108,109,197,198,199,260,261] (fun m=>[(262,.int .i64 m)]) (fun m=>[(i18,.cells 54 (aP f.blocks[j].insts[p])),(i12,.cells 51 (cZ f.blocks[j]))]) (fun m=>m≤f.blocks[j].insts[p].args.length∧(f.blocks[j].insts[p].args.take m).all (aZ f)=true) (fun m=>f.blocks[j].insts[p].args.length - m) 0 aH ⟨_,(.keep (.drop (.refl _))),U⟩ (⟨qn _,U⟩) ?_
                rintro m ⟨hm,ha1⟩
                refine ae<|ax U U<|z6<|zd<|zu U (fun cm=>?_) (fun cm=>?_)
                ·have hm1:m<f.blocks[j].insts[p].args.length:=by omega
                 refine zg<|zd<|zj<|ae<|za (qa wz j6 U U U (qk (by omega)))<|ay j7 U<|ap U<|z6<|ae<|aa U<|aa U<|ze (fV _ _) U<|aB U<|z6<|zy U (fun ca=>?_) (fun ca=>?_)
                 ·have ca:aZ f f.blocks[j].insts[p].args[m]=false:=by simp[aZ] at ca ⊢;omega
                  refine ae<|ab U<|z6<|zi<|zm (x:=.bool _) U ?_
                  rw[qy (fun h=>by have:=(h.2.2.2.2.2 _ (qo hk2)).2.1 _ (qo hp2);have h6:=List.all_eq_true.1 this.2.2.2 _ (qo hm1);rw[ca] at h6;cases h6)]
                 ·have ca:aZ f f.blocks[j].insts[p].args[m]=true:=by simp[aZ] at ca ⊢;omega
                  refine zg<|aO<|aC U U<|aa U<|z6 ?_
                  exact ⟨m+1,⟨rfl,rfl,rfl,rfl,rfl,rfl,rfl,rfl,rfl,rfl,rfl,rfl,rfl,trivial⟩,aH,aD,⟨hm1,bN hm1 ha1 ca⟩,by omega⟩
                ·rw[kr (by omega)] at ha1
                 refine y7<|aO<|aC U U<|aa U<|z6 ?_
                 exact ⟨p+1,nv,aH,⟨_,(.drop (.refl _)),rfl⟩,⟨hp2,eD hp2 hins ⟨hop.1,hop.2,cw,ha1⟩⟩,by omega⟩
          ·rw[kr (by omega)] at hins
           refine y7<|ae<|za (zn jj U Zm (by decide) U U)<|za (Gv.loadAC (l:=[_,_,_,_]) isAgg49 Zm U ⟨_,.head⟩ U U)<|y6 (cs:=[.int .i64 0,.int .i64 0,.int .i64 0,.int .i64 0]) zeroValue49 U U<|fun i22=>y1 Zm U U U U U U .head U<|z6<|ae<|ab U<|z6<|zd<|ae<|za (zn jh U Zz (by decide) U U)<|za (zt (c:=.int _ _) Y8 U ⟨_,.head⟩ U)<|z6<|ya (γ:=Unit) [1,3,9,10,107,108,109] (fun u=>[(23,.bool (bM f f.blocks[j].term))]) (fun u=>[]) (fun u=>True) ?_ (fun _ _ h=>h) ?_
           ·refine zj<|ae<|ai U U<|ab U<|z6<|zy U (fun c19=>?_) (fun c19=>?_)
            ·refine aO<|za (zn jh U Ze (by decide) U U)<|za (Gv.idxAO (j:=0) Z1 j6 U U U (by decide) U)<|za (zt (c:=.int _ _) j7 U ⟨_,.head⟩ U)<|aa U<|ze (fV _ _) U<|aj U<|zo (s:=283) U (fun c20=>?_) (fun c20=>?_)
             ·refine z8 U U c20<|za (zn jh U Ze (by decide) U U)<|z8 U U c20<|za (Gv.idxAO (j:=1) Z1 j6 U U U (by decide) U)<|z8 U U c20<|za (zt (c:=.int _ _) j7 U ⟨_,.head⟩ U)<|z8 U U c20<|ai U U<|aq U c20 U<|aj U<|zo (s:=289) U (fun c21=>?_) (fun c21=>?_)
              ·refine z8 U U c21<|za (zn jh U j6 (by decide) U U)<|z8 U U c21<|za (zt (c:=.int _ _) j7 U ⟨_,.head⟩ U)<|z8 U U c21<|ai U U<|aq U c21 U<|ab U<|z6 ?_
               exact ⟨(),lf,⟨jb (by simp_all[bM,aZ,eO]<;>grind),trivial⟩,⟨_,(.drop (.drop (.refl _))),rfl⟩,trivial⟩
              ·refine z7 U U c21<|z7 U U c21<|z7 U U c21<|au U c21 U<|ab U<|z6 ?_
               exact ⟨(),lf,⟨jb (by simp_all[bM,aZ,eO]<;>grind),trivial⟩,⟨_,(.drop (.drop (.refl _))),rfl⟩,trivial⟩
             ·refine z7 U U c20<|z7 U U c20<|z7 U U c20<|z7 U U c20<|au U c20 U<|aj U<|z7 U U U<|z7 U U U<|z7 U U U<|au U U U<|ab U<|z6 ?_
              exact ⟨(),lf,⟨jb (by simp_all[bM,aZ,eO]<;>grind),trivial⟩,⟨_,(.drop (.drop (.refl _))),rfl⟩,trivial⟩
            ·refine ae<|ai U U<|ab U<|z6<|zy U (fun c22=>?_) (fun c22=>?_)
             ·refine aO<|za (zn jh U j6 (by decide) U U)<|za (zt (c:=.int _ _) j7 U ⟨_,.head⟩ U)<|aa U<|ze (fV _ _) U<|aj U<|zo (s:=300) U (fun c23=>?_) (fun c23=>?_)
              ·refine z8 U U c23<|za (zn jh U Ze (by decide) U U)<|z8 U U c23<|za (Gv.idxAO (j:=0) Z1 j6 U U U (by decide) U)<|z8 U U c23<|za (zt (c:=.int _ _) j7 U ⟨_,.head⟩ U)<|z8 U U c23<|aa U<|z8 U U c23<|ze (fV _ _) U<|aq U c23 U<|aj U<|zo (s:=307) U (fun c24=>?_) (fun c24=>?_)
               ·refine z8 U U c24<|za (zn jh U Ze (by decide) U U)<|z8 U U c24<|za (Gv.idxAO (j:=1) Z1 j6 U U U (by decide) U)<|z8 U U c24<|za (zt (c:=.int _ _) j7 U ⟨_,.head⟩ U)<|z8 U U c24<|aa U<|z8 U U c24<|ze (fV _ _) U<|aq U c24 U<|ab U<|z6 ?_
                exact ⟨(),lf,⟨jb (by simp_all[bM,aZ,eO]<;>grind),trivial⟩,⟨_,(.drop (.drop (.refl _))),rfl⟩,trivial⟩
               ·refine z7 U U c24<|z7 U U c24<|z7 U U c24<|z7 U U c24<|z7 U U c24<|au U c24 U<|ab U<|z6 ?_
                exact ⟨(),lf,⟨jb (by simp_all[bM,aZ,eO]<;>grind),trivial⟩,⟨_,(.drop (.drop (.refl _))),rfl⟩,trivial⟩
              ·refine z7 U U c23<|z7 U U c23<|z7 U U c23<|z7 U U c23<|z7 U U c23<|au U c23 U<|aj U<|z7 U U U<|z7 U U U<|z7 U U U<|z7 U U U<|z7 U U U<|au U U U<|ab U<|z6 ?_
               exact ⟨(),lf,⟨jb (by simp_all[bM,aZ,eO]<;>grind),trivial⟩,⟨_,(.drop (.drop (.refl _))),rfl⟩,trivial⟩
             ·refine ae<|ai U U<|ab U<|z6<|zy U (fun c25=>?_) (fun c25=>?_)
              ·refine aO<|za (zn jh U j6 (by decide) U U)<|za (zt (c:=.int _ _) j7 U ⟨_,.head⟩ U)<|aa U<|ze (fV _ _) U<|aj U<|zo (s:=320) U (fun c26=>?_) (fun c26=>?_)
               ·refine z8 U U c26<|za (zn jh U Ze (by decide) U U)<|z8 U U c26<|za (Gv.loadAC (l:=[_,_]) isAgg47 Ze U ⟨_,.head⟩ U U)<|z8 U U c26<|za (Gv.buildA (cps:=[]) (rs:=[.int .i64 0,.int .i64 0]) F1 U U U)<|z8 U U c26<|za (Gv.eqlP (xs:=[.int _ _,.int _ _]) (ys:=[.int _ _,.int _ _]) (by kernel_rfl) U U (fun w=>tR _ _ _ _ w))<|aq U c26 U<|ab U<|z6 ?_
                exact ⟨(),lf,⟨jb (by simp_all[bM,aZ,eO]<;>grind),trivial⟩,⟨_,(.drop (.drop (.refl _))),rfl⟩,trivial⟩
               ·refine z7 U U c26<|z7 U U c26<|z7 U U c26<|z7 U U c26<|au U c26 U<|ab U<|z6 ?_
                exact ⟨(),lf,⟨jb (by simp_all[bM,aZ,eO]<;>grind),trivial⟩,⟨_,(.drop (.drop (.refl _))),rfl⟩,trivial⟩
              ·refine zg ?_
               exact ⟨(),lf,⟨jb (by simp_all[bM,aZ,eO]<;>grind),trivial⟩,⟨_,(.drop (.drop (.refl _))),rfl⟩,trivial⟩
           ·rintro _ _
            refine ae<|aj U<|aB U<|z6<|zy U (fun ct=>?_) (fun ct=>?_)
            ·refine ae<|ab U<|z6<|zi<|zm (x:=.bool _) U ?_
             rw[qy (fun h=>by have:=(h.2.2.2.2.2 _ (qo hk2)).2.2;rw[this] at ct;cases ct)]
            ·have ct:bM f f.blocks[j].term=true:=by simpa using ct
             refine zg<|aO<|aC U U<|aa U<|z6 ?_
             exact ⟨j+1,iO,⟨rfl,(congrArg (AV.int .i64) (by rw[hs1];omega)),trivial⟩,aD,⟨hk2,fun i h hi=>by rcases Nat.lt_or_ge i j with h3|h3;exact hnam i h h3;obtain rfl:i=j:=(by omega);exact ⟨by simpa using cv,hno⟩,by omega,eD hk2 hblk ⟨hphi,hins,ct⟩⟩,by omega⟩
     ·have hkn:k=f.blocks.length:=by omega
      subst hkn
      rw[qp] at hsum hblk
      refine y7<|ae<|ab U<|z6<|zi<|zm (x:=.bool _) U ?_
      rw[qx (show b8 f from ⟨c1,hpars,hvars,fun i h=>hnam i h h,hsum,hblk⟩)]
end Go.Proofs.YtdilpodccjlkgaaGreatDoor
namespace Go.Proofs.YtdilpodccjlkgaaGreatDoor
open Go.Proofs.Tryz
open Go.Proofs Go.Lib Go.Shelf Go.RowKit
set_option maxRecDepth 20000
variable {E:World}
def tT (b:aY):Prop:=b.name.size≤1000∧b.phis.length≤1000∧b.insts.length≤1000∧(∀p∈b.phis,p.args.length≤1000∧p.from_.length≤1000)∧∀x∈b.insts,x.args.length≤1000
def small (f:ad):Prop:=f.vars.length≤1000∧f.params.length≤1000∧f.blocks.length≤1000∧(∀v∈f.vars,v.name.size≤1000)∧∀b∈f.blocks,tT b
theorem small.ok {f:ad} (h:small f):sd f:=by
 obtain ⟨h1,h2,h3,h4,h5⟩:=h
 refine ⟨by unfold oA;omega,by unfold oA;omega,by unfold oA;omega,fun b hb=>?_⟩
 obtain ⟨g1,g2,g3,g4,g5⟩:=h5 b hb
 exact ⟨by unfold oA;omega,by unfold oA;omega,fun p hp=>⟨by have:=g4 p hp;unfold oA;omega,by have:=g4 p hp;unfold oA;omega⟩,fun x hx=>by have:=g5 x hx;unfold oA;omega⟩
theorem small.names {f:ad} (h:small f):mf f:=⟨fun v hv=>by have:=h.2.2.2.1 v hv;omega,fun b hb=>by have:=(h.2.2.2.2 b hb).1;omega⟩
theorem tU {α:Type} {enc:α→List AV} (h:∀x,(enc x).all AV.cell=true) (xs:List α):(xs.map enc).flatten.all AV.cell=true:=by
 induction xs with
 |nil=>rfl
 |cons x xs ih=>simp only[List.map_cons,List.flatten_cons,List.all_append,h,ih,Bool.and_self]
theorem vG (xs:List Int) (hl:xs.length≤1000):aR prog E 120 [.fro 1 (xs.map cW)] [] (fun x O'=>∃i:Nat,x=.own i xs.length∧Left O' [(i,.grow 1 3 (xs.map cW).flatten)]∧True):=by
 refine zq func120 U (by decide) U<|ae<|bF U<|z6<|zd<|ae<|aT U<|az.isNil wz U U (fun hnil=>?_) ?_
 ·have hx:xs=[]:=by simpa using hnil
  subst hx
  refine z6<|yl U U<|ae<|bF U<|z6<|zi ?_
  repeat (first|refine fM ?_|refine ez ?_)
  refine qT (s:=2) (k:=1) (T:=3) U (fun i=>?_)
  refine zm (x:=.own _ _) U ?_
  exact ⟨i,rfl,.refl _,trivial⟩
 ·refine z6<|yg U U<|zg<|ae<|az.buildSlice0 (k:=1) wz X8<|fun i5=>aT U<|yj (k:=1) wz X8 U U U U U (fun _=>.head) (by simp) (by decide) (tU (fun _=>U) xs) (by show (_+_)*8≤_;simp<;>omega) (by simp<;>omega)<|fun i7=>za (gZ U)<|z6<|zi<|zm (x:=.own _ _) U ?_
  exact ⟨i7,(by simp),⟨_,.refl _,rfl⟩,trivial⟩
theorem tV (xs:List Int) (hl:xs.length≤1000):aK prog E 120 [.fro 1 (xs.map cW)] (.fro 1 (xs.map cW)):=(vG xs hl).frozen (by simp[cW]) (by decide) (by simp)
end Go.Proofs.YtdilpodccjlkgaaGreatDoor
namespace Go.Proofs.YtdilpodccjlkgaaGreatDoor
open Go.Proofs.Tryz
open Go.Proofs Go.Lib Go.Shelf Go.RowKit
set_option maxRecDepth 20000
variable {E:World}
end Go.Proofs.YtdilpodccjlkgaaGreatDoor
namespace Go.Proofs.YtdilpodccjlkgaaGreatDoor
open Go.Proofs.Tryz
open Go.Proofs Go.Lib Go.Shelf Go.RowKit
set_option maxRecDepth 20000
variable {E:World}
def wV (l:List tF):Nat:=(l.map fun v=>v.name.size).sum
def wP (l:List e7):Nat:=(l.map fun p=>p.args.length+p.from_.length).sum
def wX (l:List aF):Nat:=(l.map fun x=>x.args.length).sum
def wB (b:aY):Nat:=b.name.size+10*(b.phis.length+b.insts.length)+wP b.phis+wX b.insts
def vH (l:List aY):Nat:=(l.map wB).sum
theorem Dc {l:List tF} {k:Nat} (h:k<l.length):wV (l.take (k+1))=wV (l.take k)+l[k].name.size:=by
 unfold wV;rw[ql h,qv,List.sum_append];simp only[List.map_cons,List.map_nil,List.sum_cons,List.sum_nil,Nat.add_zero]
theorem Dd {l:List e7} {k:Nat} (h:k<l.length):wP (l.take (k+1))=wP (l.take k)+(l[k].args.length+l[k].from_.length):=by
 unfold wP;rw[ql h,qv,List.sum_append];simp only[List.map_cons,List.map_nil,List.sum_cons,List.sum_nil,Nat.add_zero]
theorem De {l:List aF} {k:Nat} (h:k<l.length):wX (l.take (k+1))=wX (l.take k)+l[k].args.length:=by
 unfold wX;rw[ql h,qv,List.sum_append];simp only[List.map_cons,List.map_nil,List.sum_cons,List.sum_nil,Nat.add_zero]
theorem tW {l:List aY} {k:Nat} (h:k<l.length):vH (l.take (k+1))=vH (l.take k)+wB l[k]:=by
 unfold vH;rw[ql h,qv,List.sum_append];simp only[List.map_cons,List.map_nil,List.sum_cons,List.sum_nil,Nat.add_zero]
def xd (b:aY):Prop:=b.name.size≤400∧b.phis.length≤400∧b.insts.length≤400∧(∀p∈b.phis,p.args.length≤400∧p.from_.length≤400)∧∀x∈b.insts,x.args.length≤400
def mO (f:ad):Prop:=f.vars.length≤100∧f.blocks.length≤40∧f.params.length≤20∧(∀v∈f.vars,v.name.size≤400)∧(∀b∈f.blocks,xd b)∧(f.blocks≠[]→wV f.vars+vH f.blocks≤4000)
theorem mO.small {f:ad} (h:mO f):small f:=by
 obtain ⟨h1,h2,h3,h4,h5,_⟩:=h
 refine ⟨by omega,by omega,by omega,fun v hv=>by have:=h4 v hv;omega,fun b hb=>?_⟩
 obtain ⟨g1,g2,g3,g4,g5⟩:=h5 b hb
 exact ⟨by omega,by omega,by omega,fun p hp=>by have:=g4 p hp;omega,fun x hx=>by have:=g5 x hx;omega⟩
def wL {α:Type} (l:List α):Prop:=l.length≤9223372036854775807
def F3 (p:e7):Prop:=wL p.args∧wL p.from_
def F4 (b:aY):Prop:=wL b.phis∧wL b.insts∧(∀p∈b.phis,F3 p)∧(∀x∈b.insts,wL x.args)
def ru (f:ad):Prop:=wL f.vars∧wL f.params∧wL f.blocks∧∀b∈f.blocks,F4 b
theorem wL.lt {α:Type} {l:List α} (h:wL l):l.length≤9223372036854775807:=h
def yO (f:ad):Bool:=decide ((100:Int)<f.vars.length)||(decide ((40:Int)<f.blocks.length)||decide ((20:Int)<f.params.length))
def yP (b:aY):Bool:=decide ((400:Int)<b.name.size)||(decide ((400:Int)<b.phis.length)||decide ((400:Int)<b.insts.length))
end Go.Proofs.YtdilpodccjlkgaaGreatDoor
namespace Go.Proofs.YtdilpodccjlkgaaGreatDoor
open Go.Proofs.Tryz
open Go.Proofs Go.Lib Go.Shelf Go.RowKit
set_option maxRecDepth 20000
variable {E:World}
end Go.Proofs.YtdilpodccjlkgaaGreatDoor
