/- What has a text, and what is the same, by the document's own functions. No conditions but bounds. -/
import Derived.Test.YtjpnhkmfhlnpcaaGreatDoorZe
set_option linter.unusedVariables false
set_option linter.unusedSimpArgs false
set_option linter.unusedSectionVars false
namespace Go.Proofs.YtjpnhkmfhlnpcaaGreatDoor
open Go.Proofs.Tryz
open Go.Proofs Go.Lib Go.Shelf Go.RowKit
set_option maxRecDepth 20000
variable {E:World}
def nu (f:ab) (p:bu):Prop:=bl f p.dst=true∧p.args.length=p.from_.length∧1≤p.args.length∧p.args.all (bl f)=true∧p.from_.all (du f)=true
def jA (x:bc):Bool:=decide ((bM x.op).1=⟨#[99,111,110,115,116]⟩)||decide ((bM x.op).1=⟨#[112,105]⟩)
def lh (f:ab) (x:bc):Bool:=!decide ((x.args.length:Int)=((bM x.op).2.1.size:Int))||(!(decide ((bM x.op).2.2=⟨#[]⟩) == decide (x.dst=-1))||((!decide (x.dst=-1)&&!bl f x.dst)||(!decide (x.num=0)&&!jA x)))
def oP (f:ab) (x:bc):Prop:=0≤x.op∧x.op≤26∧lh f x=false∧x.args.all (bl f)=true
def vB (f:ab) (b:aB):Prop:=(∀p∈b.phis,nu f p)∧(∀x∈b.insts,oP f x)∧bj f b.term=true
def eb (l:List aB):Nat:=(l.map fun b=>b.phis.length+b.insts.length).sum
def kR (f:ab):Bool:=decide ((512:Int)<f.vars.length)||(decide ((8:Int)<f.params.length)||(decide ((f.vars.length:Int)<f.params.length)||(decide ((f.blocks.length:Int)<1)||decide ((64:Int)<f.blocks.length))))
def Cm (f:ab) (i:Nat) (v:qH):Prop:=lN v.name=true∧0≤v.ty∧v.ty≤2∧∀s∈(f.vars.take i).map (·.name),s≠v.name
def Cn (f:ab) (i:Nat) (b:aB):Prop:=lN b.name=true∧∀s∈(f.blocks.take i).map (·.name),s≠b.name
def bA (f:ab):Prop:=kR f=false∧(∀i (h:i<f.params.length),f.params[i]=(i:Int))∧(∀i (h:i<f.vars.length),Cm f i f.vars[i])∧(∀i (h:i<f.blocks.length),Cn f i f.blocks[i])∧eb f.blocks≤1024∧∀b∈f.blocks,vB f b
instance (f:ab) (p:bu):Decidable (nu f p):=by unfold nu;infer_instance
instance (f:ab) (x:bc):Decidable (oP f x):=by unfold oP;infer_instance
instance (f:ab) (b:aB):Decidable (vB f b):=by unfold vB;infer_instance
instance (f:ab) (i:Nat) (v:qH):Decidable (Cm f i v):=by unfold Cm;infer_instance
instance (f:ab) (i:Nat) (b:aB):Decidable (Cn f i b):=by unfold Cn;infer_instance
instance (f:ab):Decidable (bA f):=by unfold bA;infer_instance
theorem vC (l:List aB) (k:Nat):eb (l.take k)≤eb l:=by
 have:eb l=eb (l.take k)+eb (l.drop k):=by
  unfold eb;rw[←List.sum_append,←List.map_append,List.take_append_drop]
 omega
theorem oQ (l:List aB) (k:Nat) (h:k<l.length):eb (l.take (k+1))=eb (l.take k)+(l[k].phis.length+l[k].insts.length):=by
 unfold eb;rw[qr h,List.map_append,List.sum_append];simp only[List.map_cons,List.map_nil,List.sum_cons,List.sum_nil,Nat.add_zero]
theorem tO {α:Type} {g:α→ByteArray} {l:List α} {k:Nat} {s:ByteArray} (h:k<l.length) (h1:∀x∈(l.take k).map g,x≠s) (h2:¬g l[k]=s):∀x∈(l.take (k+1)).map g,x≠s:=by
 rw[qr h,List.map_append]
 intro x hx
 rcases List.mem_append.1 hx with hx|hx
 ·exact h1 x hx
 ·simp only[List.map_cons,List.map_nil,List.mem_singleton] at hx;rw[hx];exact h2
theorem xi {α:Type} {g:α→ByteArray} {l:List α} {k i:Nat} {s:ByteArray} (h:k<l.length) (hk:k<i) (h1:∀x∈(l.take i).map g,x≠s):¬g l[k]=s:=by
 refine h1 _ (List.mem_map.2 ⟨l[k],?_,Z⟩)
 refine List.mem_iff_getElem?.2 ⟨k,?_⟩
 rw[List.getElem?_take,if_pos hk,qq h]
theorem bX {α:Type} {p:α→Bool} {l:List α} {k:Nat} (h:k<l.length) (h1:(l.take k).all p=true) (h2:p l[k]=true):(l.take (k+1)).all p=true:=by
 rw[qr h,List.all_append,h1];simp[h2]
theorem dA {α:Type} {p:α→Bool} {l:List α} {k:Nat} (h:k<l.length) (h2:p l[k]=false):¬l.all p=true:=fun h3=>by
 have:=List.all_eq_true.1 h3 _ (qu h);rw[h2] at this;cases this
theorem jY {α:Type} {l:List α} {k:Nat} (h:l.length≤k):l.take k=l:=List.take_of_length_le h
theorem dP {α:Type} {p:α→Prop} {l:List α} {k:Nat} (h:k<l.length) (h1:∀x∈l.take k,p x) (h2:p l[k]):∀x∈l.take (k+1),p x:=by
 rw[qr h]
 intro x hx
 rcases List.mem_append.1 hx with hx|hx
 ·exact h1 x hx
 ·rw[List.mem_singleton.1 hx];exact h2
def lO (f:ab):Prop:=(∀v∈f.vars,v.name.size≤140737488355328)∧∀b∈f.blocks,b.name.size≤140737488355328
set_option maxHeartbeats 8000000 in
theorem oR (f:ab) (hf:sj f) (hn:lO f) (hL:aj E):aZ prog E 46 [.agg (bQ f)] (.bool (decide (bA f))):=by
 obtain ⟨hf1,hf2,hf3,hf4⟩:=hf
 have hl1:=hf1.lt
 have hl2:=hf2.lt
 have hl3:=hf3.lt
 refine zo func46 Z (by decide) Z<|ah<|yb (cs:=_) Z Z Z<|ad Z<|z7<|ah<|aq ji Z Y6 Z Z<|aM Yg Z<|ae Zb Z<|aw Z<|z7<|zb<|zb<|yq (γ:=Unit) [1,3] (fun u=>[(53,.bool (kR f))]) (fun u=>[]) (fun u=>True) ?_ (fun _ _ h=>h) ?_
 ·refine bi<|aa Z<|za (yy Z Z)<|ai Z<|zk (s:=29) Z (fun c1=>?_) (fun c1=>?_)
  ·refine z6 Z Z c1<|z6 Z Z c1<|z6 Z Z c1<|z6 Z Z c1<|ap Z c1 Z<|ai Z<|z6 Z Z Z<|z6 Z Z Z<|z6 Z Z Z<|z6 Z Z Z<|z6 Z Z Z<|ap Z Z Z<|ai Z<|z6 Z Z Z<|z6 Z Z Z<|z6 Z Z Z<|z6 Z Z Z<|ap Z Z Z<|ai Z<|z6 Z Z Z<|z6 Z Z Z<|z6 Z Z Z<|z6 Z Z Z<|ap Z Z Z<|z7 ?_
   exact ⟨(),eE,⟨jb (by simp_all[kR]<;>grind),trivial⟩,aN,trivial⟩
  ·refine z8 Z Z c1<|aq ji Z jm Z Z<|z8 Z Z c1<|aM jw Z<|z8 Z Z c1<|ae jd Z<|z8 Z Z c1<|za (yy Z Z)<|al Z c1 Z<|ai Z<|zk (s:=35) Z (fun c2=>?_) (fun c2=>?_)
   ·refine z6 Z Z c2<|z6 Z Z c2<|z6 Z Z c2<|z6 Z Z c2<|z6 Z Z c2<|ap Z c2 Z<|ai Z<|z6 Z Z Z<|z6 Z Z Z<|z6 Z Z Z<|z6 Z Z Z<|ap Z Z Z<|ai Z<|z6 Z Z Z<|z6 Z Z Z<|z6 Z Z Z<|z6 Z Z Z<|ap Z Z Z<|z7 ?_
    exact ⟨(),eE,⟨jb (by simp_all[kR]<;>grind),trivial⟩,aN,trivial⟩
   ·refine z8 Z Z c2<|aq ji Z jm Z Z<|z8 Z Z c2<|aM jw Z<|z8 Z Z c2<|ae jd Z<|z8 Z Z c2<|aa Z<|z8 Z Z c2<|za (yy Z Z)<|al Z c2 Z<|ai Z<|zk (s:=42) Z (fun c3=>?_) (fun c3=>?_)
    ·refine z6 Z Z c3<|z6 Z Z c3<|z6 Z Z c3<|z6 Z Z c3<|ap Z c3 Z<|ai Z<|z6 Z Z Z<|z6 Z Z Z<|z6 Z Z Z<|z6 Z Z Z<|ap Z Z Z<|z7 ?_
     exact ⟨(),eE,⟨jb (by simp_all[kR]<;>grind),trivial⟩,aN,trivial⟩
    ·refine z8 Z Z c3<|aq ji Z Z0 Z Z<|z8 Z Z c3<|aM Z6 Z<|z8 Z Z c3<|ae jl Z<|z8 Z Z c3<|ay Z Z<|al Z c3 Z<|ai Z<|zk (s:=48) Z (fun c4=>?_) (fun c4=>?_)
     ·refine z6 Z Z c4<|z6 Z Z c4<|z6 Z Z c4<|z6 Z Z c4<|ap Z c4 Z<|z7 ?_
      exact ⟨(),eE,⟨jb (by simp_all[kR]<;>grind),trivial⟩,aN,trivial⟩
     ·refine z8 Z Z c4<|aq ji Z Z0 Z Z<|z8 Z Z c4<|aM Z6 Z<|z8 Z Z c4<|ae jl Z<|z8 Z Z c4<|za (yy Z Z)<|al Z c4 Z<|z7 ?_
      exact ⟨(),eE,⟨jb (by simp_all[kR]<;>grind),trivial⟩,aN,trivial⟩
 ·rintro _ _
  refine zr Z (fun c1=>?_) (fun c1=>?_)
  ·refine ah<|ad Z<|z7<|zf<|zh (x:=.bool _) Z ?_
   rw[w5 (fun h=>by rw[h.1] at c1;cases c1)]
  ·have hsz:f.vars.length≤512∧f.params.length≤8∧f.params.length≤f.vars.length∧1≤f.blocks.length∧f.blocks.length≤64:=by unfold kR at c1;simp at c1;omega
   refine ze<|zb<|ah<|aq ji Z jm Z Z<|aM jw Z<|ae jd Z<|aa Z<|z7<|zg<|y7 (γ:=Nat) [1,3,55,56] (fun k=>[(57,.int .i64 k)]) (fun k=>[]) (fun k=>k≤f.params.length∧∀i (h:i<f.params.length),i<k→f.params[i]=(i:Int)) (fun k=>f.params.length - k) 0 aW aN (⟨qt _,fun i h hk=>by omega⟩) ?_
   rintro k ⟨hk,hpar⟩
   refine ah<|ay Z Z<|z7<|zb<|zm Z (fun ck=>?_) (fun ck=>?_)
   ·have hk2:k<f.params.length:=by omega
    refine ze<|zb<|zg<|ah<|aa Z<|za (q9 jd je Z Z Z (qq (by omega)))<|aE jj Z<|aw Z<|aw Z<|z7<|ah<|aa Z<|aa Z<|za (yn Z Z)<|z7<|zr Z (fun cp=>?_) (fun cp=>?_)
    ·refine ah<|ad Z<|z7<|zf<|zh (x:=.bool _) Z ?_
     rw[w5 (fun h=>by have:=h.2.1 k hk2;simp[this] at cp)]
    ·refine ze<|bi<|aC Z Z<|aa Z<|z7 ?_
     exact ⟨k+1,gY,aW,aN,⟨hk2,fun i h hi=>by rcases Nat.lt_or_ge i k with h3|h3;exact hpar i h h3;obtain rfl:i=k:=(by omega);simpa using cp⟩,by omega⟩
   ·have hpars:∀i (h:i<f.params.length),f.params[i]=(i:Int):=fun i h=>hpar i h (by omega)
    refine zz<|zb<|ah<|aq ji Z Y6 Z Z<|aM Yg Z<|ae Zb Z<|aa Z<|z7<|zg<|y7 (γ:=Nat) [1,3,67,68] (fun k=>[(69,.int .i64 k)]) (fun k=>[]) (fun k=>k≤f.vars.length∧∀i (h:i<f.vars.length),i<k→Cm f i f.vars[i]) (fun k=>f.vars.length - k) 0 aW aN (⟨qt _,fun i h hk=>by omega⟩) ?_
    rintro k ⟨hk,hvar⟩
    refine ah<|ay Z Z<|z7<|zb<|zm Z (fun ck=>?_) (fun ck=>?_)
    ·have hk2:k<f.vars.length:=by omega
     have hnk:f.vars[k].name.size≤140737488355328:=hn.1 _ (qu hk2)
     refine ze<|zb<|zg<|ah<|aa Z<|za (q9 Zb Y7 Z Z Z (qq (by omega)))<|ac isAgg66 Y7 Z Z<|zy (cs:=[.str ⟨#[]⟩,.int .i64 0]) zeroValue66 Z Z<|fun i7=>aw Z<|zt Y7 Z Z Z Z Z Z .head Z<|z7<|zb<|zb<|yq (γ:=Unit) [1,3,6,7,67,68,69] (fun u=>[(87,.bool (!lN f.vars[k].name||(decide (f.vars[k].ty<0)||decide (2<f.vars[k].ty))))]) (fun u=>[(i7,.cells 66 (b7 f.vars[k]))]) (fun u=>True) ?_ (fun _ _ h=>h) ?_
     ·refine bi<|za (zc Zm Z Zh (by decide) Z Z)<|za (zj (c:=.str _) Zr Z ⟨_,.head⟩ Z)<|zi (rx _ (by assumption) hL) Z<|aD Z<|ai Z<|zk (s:=78) Z (fun c5=>?_) (fun c5=>?_)
      ·refine z6 Z Z c5<|z6 Z Z c5<|z6 Z Z c5<|ap Z c5 Z<|ai Z<|z6 Z Z Z<|z6 Z Z Z<|z6 Z Z Z<|ap Z Z Z<|z7 ?_
       exact ⟨(),iM,⟨jb (by simp_all<;>grind),trivial⟩,aN,trivial⟩
      ·refine z8 Z Z c5<|za (zc Zm Z sizeOf64 (by decide) Z Z)<|z8 Z Z c5<|za (zj (c:=.int _ _) isAgg64 Z ⟨_,.head⟩ Z)<|z8 Z Z c5<|ay Z Z<|al Z c5 Z<|ai Z<|zk (s:=83) Z (fun c6=>?_) (fun c6=>?_)
       ·refine z6 Z Z c6<|z6 Z Z c6<|z6 Z Z c6<|ap Z c6 Z<|z7 ?_
        exact ⟨(),iM,⟨jb (by simp_all<;>grind),trivial⟩,aN,trivial⟩
       ·refine z8 Z Z c6<|za (zc Zm Z sizeOf64 (by decide) Z Z)<|z8 Z Z c6<|za (zj (c:=.int _ _) isAgg64 Z ⟨_,.head⟩ Z)<|z8 Z Z c6<|za (yy Z Z)<|al Z c6 Z<|z7 ?_
        exact ⟨(),iM,⟨jb (by simp_all<;>grind),trivial⟩,aN,trivial⟩
     ·rintro _ _
      refine zr Z (fun cv=>?_) (fun cv=>?_)
      ·refine ah<|ad Z<|z7<|zf<|zh (x:=.bool _) Z ?_
       rw[w5 (fun h=>by have:=h.2.2.1 k hk2;obtain ⟨h1,h2,h3,_⟩:=this;simp[h1] at cv;omega)]
      ·have hv3:lN f.vars[k].name=true∧0≤f.vars[k].ty∧f.vars[k].ty≤2:=by simp at cv;omega
       refine ze<|ah<|aa Z<|aa Z<|z7<|zg<|y7 (γ:=Nat) [1,3,7,67,68,69,88] (fun j=>[(89,.int .i64 j)]) (fun j=>[(i7,.cells 66 (b7 f.vars[k]))]) (fun j=>j≤k∧∀s∈(f.vars.take j).map (·.name),s≠f.vars[k].name) (fun j=>k - j) 0 aW aN (⟨qt _,by simp⟩) ?_
       rintro j ⟨hj,hno⟩
       refine ah<|ay Z Z<|z7<|zb<|zm Z (fun cj=>?_) (fun cj=>?_)
       ·have hj1:j<f.vars.length:=by omega
        refine ze<|zb<|zg<|ah<|aa Z<|aw Z<|z7<|zb<|zq (fun j=>false) (by kernel_rfl) Z (zu (.r (.rest _)))<|ak 0 Z (eK ji Z Y6 Z Z)<|ak 1 Z (lL Yg Z)<|ak 2 Z (d9 Z)<|ak 3 Z (q9 Zb Y7 Z Z Z (qq (by omega)))<|ak 4 Z (eK Zm Z Zh Z Z)<|ak 5 Z (qg (c:=.str _) Zr Z)<|ak 6 Z (zc Zm Z Zh (by decide) Z Z)<|ak 7 Z (zj (c:=.str _) Zr Z ⟨_,.head⟩ Z)<|ak 8 Z (yz Z Z)<|eG<|zm Z (fun ce=>?_) (fun ce=>?_)
        ·refine ah<|ad Z<|z7<|zf<|zh (x:=.bool _) Z ?_
         rw[w5 (fun h=>by exact xi (g:=qH.name) hj1 (by omega) (h.2.2.1 k hk2).2.2.2 ce)]
        ·refine ze<|bi<|aC Z Z<|aa Z<|z7 ?_
         exact ⟨j+1,iM,aW,aN,⟨by omega,tO hj1 hno ce⟩,by omega⟩
       ·obtain rfl:j=k:=by omega
        refine zz<|bi<|aC Z Z<|aa Z<|z7 ?_
        exact ⟨j+1,gY,aW,⟨_,(.drop (.refl _)),rfl⟩,⟨hk2,fun i h hi=>by rcases Nat.lt_or_ge i j with h3|h3;exact hvar i h h3;obtain rfl:i=j:=(by omega);exact ⟨hv3.1,hv3.2.1,hv3.2.2,hno⟩⟩,by omega⟩
    ·have hvars:∀i (h:i<f.vars.length),Cm f i f.vars[i]:=fun i h=>hvar i h (by omega)
     refine zz<|ah<|aq ji Z Z0 Z Z<|aM Z6 Z<|ae jl Z<|aw Z<|z7<|ah<|aw Z<|z7<|zb<|ah<|aq ji Z Z0 Z Z<|aM Z6 Z<|ae jl Z<|aa Z<|z7<|zg<|y7 (γ:=Nat) [1,3,9,107,108] (fun g=>[(109,.int .i64 g),(10,.int .i64 (eb (f.blocks.take g)))]) (fun g=>[]) (fun g=>g≤f.blocks.length∧(∀i (h:i<f.blocks.length),i<g→Cn f i f.blocks[i])∧eb (f.blocks.take g)≤1024∧∀b∈f.blocks.take g,vB f b) (fun g=>f.blocks.length - g) 0 eE aN (⟨qt _,fun i h hk=>by omega,by simp[eb],by simp⟩) ?_
     rintro k ⟨hk,hnam,hsum,hblk⟩
     refine ah<|ay Z Z<|z7<|zb<|zm Z (fun ck=>?_) (fun ck=>?_)
     ·have hk2:k<f.blocks.length:=by omega
      have hnk:f.blocks[k].name.size≤140737488355328:=hn.2 _ (qu hk2)
      obtain ⟨hb1,hb2,hb3,hb4⟩:=hf4 _ (qu hk2)
      have hl4:=hb1.lt
      have hl5:=hb2.lt
      refine ze<|zb<|zg<|ah<|aa Z<|za (q9 jl jv Z Z Z (qq (by omega)))<|ac Zu jv Z Z<|zy (cs:=[.str ⟨#[]⟩,.raw (.slice none 0 0),.raw (.slice none 0 0),.int .i64 0,.int .i64 0,.int .i64 0,.int .i64 0]) Zc Z Z<|fun i12=>aw Z<|zt jv Z Z Z Z Z Z .head Z<|z7<|zb<|ah<|za (zc jh Z Zh (by decide) Z Z)<|za (zj (c:=.str _) Zr Z ⟨_,.head⟩ Z)<|zi (rx _ (by assumption) hL) Z<|aD Z<|z7<|zr Z (fun cv=>?_) (fun cv=>?_)
      ·refine ah<|ad Z<|z7<|zf<|zh (x:=.bool _) Z ?_
       rw[w5 (fun h=>by have:=(h.2.2.2.1 k hk2).1;simp[this] at cv)]
      ·refine ze<|zb<|ah<|aa Z<|aa Z<|z7<|zg<|y7 (γ:=Nat) [1,3,9,10,12,107,108,109,118] (fun j=>[(119,.int .i64 j)]) (fun j=>[(i12,.cells 60 (bk f.blocks[k]))]) (fun j=>j≤k∧∀s∈(f.blocks.take j).map (·.name),s≠f.blocks[k].name) (fun j=>k - j) 0 aW aN (⟨qt _,by simp⟩) ?_
       rintro j ⟨hj,hno⟩
       refine ah<|ay Z Z<|z7<|zb<|zm Z (fun cj=>?_) (fun cj=>?_)
       ·have hj1:j<f.blocks.length:=by omega
        refine ze<|zb<|zg<|ah<|aa Z<|aw Z<|z7<|zb<|zq (fun j=>false) (by kernel_rfl) Z (zu (.r (.rest _)))<|ak 0 Z (eK ji Z Z0 Z Z)<|ak 1 Z (lL Z6 Z)<|ak 2 Z (d9 Z)<|ak 3 Z (q9 jl jv Z Z Z (qq (by omega)))<|ak 4 Z (eK jh Z Zh Z Z)<|ak 5 Z (qg (c:=.str _) Zr Z)<|ak 6 Z (zc jh Z Zh (by decide) Z Z)<|ak 7 Z (zj (c:=.str _) Zr Z ⟨_,.head⟩ Z)<|ak 8 Z (yz Z Z)<|eG<|zm Z (fun ce=>?_) (fun ce=>?_)
        ·refine ah<|ad Z<|z7<|zf<|zh (x:=.bool _) Z ?_
         rw[w5 (fun h=>by exact xi (g:=aB.name) hj1 (by omega) (h.2.2.2.1 k hk2).2 ce)]
        ·refine ze<|bi<|aC Z Z<|aa Z<|z7 ?_
         exact ⟨j+1,tF,aW,aN,⟨by omega,tO hj1 hno ce⟩,by omega⟩
       ·obtain rfl:j=k:=by omega
        have hs1:=oQ f.blocks j hk2
        refine zz<|ah<|aa Z<|za (zc jh Z Zf (by decide) Z Z)<|za (zj (c:=.fro _ _) Zv Z ⟨_,.head⟩ Z)<|ae jx Z<|aC Z Z<|za (zc jh Z Zi (by decide) Z Z)<|za (zj (c:=.fro _ _) Zy Z ⟨_,.head⟩ Z)<|ae jz Z<|aC Z Z<|aw Z<|z7<|zb<|ah<|aa Z<|za (yy Z Z)<|z7<|zm Z (fun cs=>?_) (fun cs=>?_)
        ·refine ah<|ad Z<|z7<|zf<|zh (x:=.bool _) Z ?_
         rw[w5 (fun h=>by have:=h.2.2.2.2.1;have:=vC f.blocks (j+1);omega)]
        ·refine ze<|zb<|ah<|za (zc jh Z Zf (by decide) Z Z)<|za (zj (c:=.fro _ _) Zv Z ⟨_,.head⟩ Z)<|ae jx Z<|aa Z<|z7<|zg<|y7 (γ:=Nat) [1,3,9,10,12,107,108,109,144,145] (fun p=>[(146,.int .i64 p)]) (fun p=>[(i12,.cells 60 (bk f.blocks[j]))]) (fun p=>p≤f.blocks[j].phis.length∧∀q∈f.blocks[j].phis.take p,nu f q) (fun p=>f.blocks[j].phis.length - p) 0 aW aN (⟨qt _,by simp⟩) ?_
         rintro p ⟨hp,hphi⟩
         refine ah<|ay Z Z<|z7<|zb<|zm Z (fun cp=>?_) (fun cp=>?_)
         ·have hp2:p<f.blocks[j].phis.length:=by omega
          obtain ⟨hq1,hq2⟩:=hb3 _ (qu hp2)
          have hl6:=hq1.lt
          have hl7:=hq2.lt
          refine ze<|zb<|zg<|ah<|za (q9 jx Z1 Z Z Z (qq (by omega)))<|ac Y0 Z1 Z Z<|zy (cs:=[.int .i64 0,.raw (.slice none 0 0),.raw (.slice none 0 0)]) Ze Z Z<|fun i15=>zt Z1 Z Z Z Z Z Z .head Z<|z7<|zb<|zb<|yq (γ:=Unit) [1,3,9,10,12,15,107,108,109,144,145,146] (fun u=>[(169,.bool (!bl f f.blocks[j].phis[p].dst||(!decide ((f.blocks[j].phis[p].args.length:Int)=f.blocks[j].phis[p].from_.length)||decide ((f.blocks[j].phis[p].args.length:Int)<1))))]) (fun u=>[(i15,.cells 73 (bd f.blocks[j].phis[p])),(i12,.cells 60 (bk f.blocks[j]))]) (fun u=>True) ?_ (fun _ _ h=>h) ?_
          ·refine bi<|za (zc jq Z je (by decide) Z Z)<|za (zj (c:=.int _ _) jj Z ⟨_,.head⟩ Z)<|aa Z<|zi (fp _ _) Z<|aD Z<|ai Z<|zk (s:=155) Z (fun c7=>?_) (fun c7=>?_)
           ·refine z6 Z Z c7<|z6 Z Z c7<|z6 Z Z c7<|z6 Z Z c7<|z6 Z Z c7<|z6 Z Z c7<|z6 Z Z c7<|ap Z c7 Z<|ai Z<|z6 Z Z Z<|z6 Z Z Z<|z6 Z Z Z<|z6 Z Z Z<|ap Z Z Z<|z7 ?_
            exact ⟨(),kQ,⟨jb (by simp_all[bl]<;>grind),trivial⟩,aN,trivial⟩
           ·refine z8 Z Z c7<|za (zc jq Z jm (by decide) Z Z)<|z8 Z Z c7<|za (zj (c:=.fro _ _) jw Z ⟨_,.head⟩ Z)<|z8 Z Z c7<|ae jd Z<|z8 Z Z c7<|za (zc jq Z jm (by decide) Z Z)<|z8 Z Z c7<|za (zj (c:=.fro _ _) jw Z ⟨_,.head⟩ Z)<|z8 Z Z c7<|ae jd Z<|z8 Z Z c7<|za (yn Z Z)<|al Z c7 Z<|ai Z<|zk (s:=164) Z (fun c8=>?_) (fun c8=>?_)
            ·refine z6 Z Z c8<|z6 Z Z c8<|z6 Z Z c8<|z6 Z Z c8<|ap Z c8 Z<|z7 ?_
             exact ⟨(),kQ,⟨jb (by simp_all[bl]<;>grind),trivial⟩,aN,trivial⟩
            ·refine z8 Z Z c8<|za (zc jq Z jm (by decide) Z Z)<|z8 Z Z c8<|za (zj (c:=.fro _ _) jw Z ⟨_,.head⟩ Z)<|z8 Z Z c8<|ae jd Z<|z8 Z Z c8<|ay Z Z<|al Z c8 Z<|z7 ?_
             exact ⟨(),kQ,⟨jb (by simp_all[bl]<;>grind),trivial⟩,aN,trivial⟩
          ·rintro _ _
           refine zr Z (fun cq=>?_) (fun cq=>?_)
           ·refine ah<|ad Z<|z7<|zf<|zh (x:=.bool _) Z ?_
            rw[w5 (fun h=>by have:=(h.2.2.2.2.2 _ (qu hk2)).1 _ (qu hp2);obtain ⟨h1,h2,h3,_⟩:=this;rw[h1,h2] at cq;simp only[Bool.not_true,Bool.false_or,decide_true,wa] at cq;omega)]
           ·have hq3:bl f f.blocks[j].phis[p].dst=true∧f.blocks[j].phis[p].args.length=f.blocks[j].phis[p].from_.length∧1≤f.blocks[j].phis[p].args.length:=by
             rcases Bool.or_eq_false_iff.1 cq with ⟨a1,a2⟩
             rcases Bool.or_eq_false_iff.1 a2 with ⟨a3,a4⟩
             exact ⟨by simpa using a1,by simp only[Bool.not_eq_false',wa] at a3;omega,by have:=of_decide_eq_false a4;omega⟩
            refine ze<|ah<|za (zc jq Z jm (by decide) Z Z)<|za (zj (c:=.fro _ _) jw Z ⟨_,.head⟩ Z)<|ae jd Z<|aa Z<|z7<|zg<|y7 (γ:=Nat) [1,3,9,10,12,15,107,108,109,144,145,146,172] (fun m=>[(173,.int .i64 m)]) (fun m=>[(i15,.cells 73 (bd f.blocks[j].phis[p])),(i12,.cells 60 (bk f.blocks[j]))]) (fun m=>m≤f.blocks[j].phis[p].args.length∧(f.blocks[j].phis[p].args.take m).all (bl f)=true∧(f.blocks[j].phis[p].from_.take m).all (du f)=true) (fun m=>f.blocks[j].phis[p].args.length - m) 0 aW aN (⟨qt _,Z,Z⟩) ?_
            rintro m ⟨hm,ha1,ha2⟩
            refine ah<|ay Z Z<|z7<|zb<|zm Z (fun cm=>?_) (fun cm=>?_)
            ·have hm1:m<f.blocks[j].phis[p].args.length:=by omega
             have hm2:m<f.blocks[j].phis[p].from_.length:=by omega
             refine ze<|zb<|zg<|ah<|aa Z<|aw Z<|z7<|zb<|yq (γ:=Unit) [1,3,9,10,12,15,107,108,109,144,145,146,172,173] (fun u=>[(193,.bool (!bl f f.blocks[j].phis[p].args[m]||!du f f.blocks[j].phis[p].from_[m]))]) (fun u=>[(i15,.cells 73 (bd f.blocks[j].phis[p])),(i12,.cells 60 (bk f.blocks[j]))]) (fun u=>True) ?_ (fun _ _ h=>h) ?_
             ·refine bi<|za (zc jq Z jm (by decide) Z Z)<|za (zj (c:=.fro _ _) jw Z ⟨_,.head⟩ Z)<|aa Z<|za (q9 jd je Z Z Z (qq (by omega)))<|aE jj Z<|aa Z<|zi (fp _ _) Z<|aD Z<|ai Z<|zk (s:=184) Z (fun c9=>?_) (fun c9=>?_)
              ·refine z6 Z Z c9<|z6 Z Z c9<|z6 Z Z c9<|z6 Z Z c9<|z6 Z Z c9<|z6 Z Z c9<|z6 Z Z c9<|z6 Z Z c9<|ap Z c9 Z<|z7 ?_
               exact ⟨(),⟨rfl,rfl,rfl,rfl,rfl,rfl,rfl,rfl,rfl,rfl,rfl,rfl,rfl,rfl,trivial⟩,⟨jb (by simp_all[bl,du]<;>grind),trivial⟩,aN,trivial⟩
              ·refine z8 Z Z c9<|za (zc jq Z jm (by decide) Z Z)<|z8 Z Z c9<|za (zj (c:=.fro _ _) jw Z ⟨_,.head⟩ Z)<|z8 Z Z c9<|aa Z<|z8 Z Z c9<|za (q9 jd je Z Z Z (qq (by omega)))<|z8 Z Z c9<|aE jj Z<|z8 Z Z c9<|aa Z<|z8 Z Z c9<|zi (fp _ _) Z<|z8 Z Z c9<|aD Z<|al Z c9 Z<|z7 ?_
               exact ⟨(),⟨rfl,rfl,rfl,rfl,rfl,rfl,rfl,rfl,rfl,rfl,rfl,rfl,rfl,rfl,trivial⟩,⟨jb (by simp_all[bl,du]<;>grind),trivial⟩,aN,trivial⟩
             ·rintro _ _
              refine zr Z (fun cw=>?_) (fun cw=>?_)
              ·refine ah<|ad Z<|z7<|zf<|zh (x:=.bool _) Z ?_
               rw[w5 (fun h=>by have:=(h.2.2.2.2.2 _ (qu hk2)).1 _ (qu hp2);obtain ⟨_,_,_,h4,h5⟩:=this;have h6:=List.all_eq_true.1 h4 _ (qu hm1);have h7:=List.all_eq_true.1 h5 _ (qu hm2);rw[h6,h7] at cw;cases cw)]
              ·refine ze<|bi<|aC Z Z<|aa Z<|z7 ?_
               exact ⟨m+1,⟨rfl,rfl,rfl,rfl,rfl,rfl,rfl,rfl,rfl,rfl,rfl,rfl,rfl,trivial⟩,aW,aN,⟨hm1,bX hm1 ha1 (by simp at cw;exact cw.1),bX hm2 ha2 (by simp at cw;exact cw.2)⟩,by omega⟩
            ·rw[jY (by omega)] at ha1
             rw[jY (by omega)] at ha2
             refine zz<|bi<|aC Z Z<|aa Z<|z7 ?_
             exact ⟨p+1,⟨rfl,rfl,rfl,rfl,rfl,rfl,rfl,rfl,rfl,rfl,trivial⟩,aW,⟨_,(.drop (.refl _)),rfl⟩,⟨hp2,dP hp2 hphi ⟨hq3.1,hq3.2.1,hq3.2.2,ha1,ha2⟩⟩,by omega⟩
         ·rw[jY (by omega)] at hphi
          refine zz<|zb<|ah<|za (zc jh Z Zi (by decide) Z Z)<|za (zj (c:=.fro _ _) Zy Z ⟨_,.head⟩ Z)<|ae jz Z<|aa Z<|z7<|zg<|y7 (γ:=Nat) [1,3,9,10,12,107,108,109,197,198] (fun p=>[(199,.int .i64 p)]) (fun p=>[(i12,.cells 60 (bk f.blocks[j]))]) (fun p=>p≤f.blocks[j].insts.length∧∀q∈f.blocks[j].insts.take p,oP f q) (fun p=>f.blocks[j].insts.length - p) 0 aW aN (⟨qt _,by simp⟩) ?_
          rintro p ⟨hp,hins⟩
          refine ah<|ay Z Z<|z7<|zb<|zm Z (fun cp=>?_) (fun cp=>?_)
          ·have hp2:p<f.blocks[j].insts.length:=by omega
           have hq1:=hb4 _ (qu hp2)
           have hl6:=hq1.lt
           refine ze<|zb<|zg<|ah<|za (q9 jz Z5 Z Z Z (qq (by omega)))<|ac Yd Z5 Z Z<|zy (cs:=[.int .i64 0,.int .i64 0,.raw (.slice none 0 0),.int .i64 0]) Y3 Z Z<|fun i18=>zt Z5 Z Z Z Z Z Z .head Z<|z7<|zb<|zb<|yq (γ:=Unit) [1,3,9,10,12,18,107,108,109,197,198,199] (fun u=>[(210,.bool (decide (f.blocks[j].insts[p].op<0)||decide (26<f.blocks[j].insts[p].op)))]) (fun u=>[(i18,.cells 69 (bz f.blocks[j].insts[p])),(i12,.cells 60 (bk f.blocks[j]))]) (fun u=>True) ?_ (fun _ _ h=>h) ?_
           ·refine bi<|za (zc jp Z Zz (by decide) Z Z)<|za (zj (c:=.int _ _) Y5 Z ⟨_,.head⟩ Z)<|ay Z Z<|ai Z<|zk (s:=206) Z (fun c10=>?_) (fun c10=>?_)
            ·refine z6 Z Z c10<|z6 Z Z c10<|z6 Z Z c10<|ap Z c10 Z<|z7 ?_
             exact ⟨(),kQ,⟨jb (by simp_all<;>grind),trivial⟩,aN,trivial⟩
            ·refine z8 Z Z c10<|za (zc jp Z Zz (by decide) Z Z)<|z8 Z Z c10<|za (zj (c:=.int _ _) Y5 Z ⟨_,.head⟩ Z)<|z8 Z Z c10<|za (yy Z Z)<|al Z c10 Z<|z7 ?_
             exact ⟨(),kQ,⟨jb (by simp_all<;>grind),trivial⟩,aN,trivial⟩
           ·rintro _ _
            refine zr Z (fun cq=>?_) (fun cq=>?_)
            ·refine ah<|ad Z<|z7<|zf<|zh (x:=.bool _) Z ?_
             rw[w5 (fun h=>by have:=(h.2.2.2.2.2 _ (qu hk2)).2.1 _ (qu hp2);obtain ⟨h1,h2,_⟩:=this;simp at cq;omega)]
            ·have hop:0≤f.blocks[j].insts[p].op∧f.blocks[j].insts[p].op≤26:=by simp at cq;omega
             have hrow:fI[f.blocks[j].insts[p].op.toNat]?=some (bM f.blocks[j].insts[p].op):=by unfold bM;rw[if_pos hop.1,qq (show _<27 by omega)];rfl
             refine ze<|zb<|yq (γ:=Nat) [1,3,9,10,12,18,107,108,109,197,198,199] (fun i=>[(19,.po i 0)]) (fun i=>[(i18,.cells 69 (bz f.blocks[j].insts[p])),(i,.cells 97 (qF (bM f.blocks[j].insts[p].op))),(i12,.cells 60 (bk f.blocks[j]))]) (fun i=>True) ?_ (fun _ _ h=>h) ?_
             ·refine zq (fun j=>Nat.beq j 6) (by kernel_rfl) Z (zu (.r (.rest _)))<|ak 1 Z (zc jp Z Zz (by decide) Z Z)<|ak 2 Z (zj (c:=.int _ _) Y5 Z ⟨_,.head⟩ Z)<|qc (i:=0) (j:=5) Z Z (by kernel_rfl) ?_ ?_
              ·refine zi (ig) Z<|z7<|ak 3 Z (q9 (j:=(f.blocks[j].insts[p].op.toNat)) Ym Y8 Z Z (w8 hop.1).symm hrow)<|ak 4 Z (yv isAgg97 Y8 Z Z)<|bO 5 Z<|zy (cs:=[.str ⟨#[]⟩,.str ⟨#[]⟩,.str ⟨#[]⟩]) zeroValue97 Z Z<|fun i19=>z7<|yi<|yk (i:=6) Z (by kernel_rfl) (by kernel_rfl)<|zt Y8 Z Z Z Z Z Z .t1 Z<|z7<|yl (by kernel_rfl) ?_
               exact ⟨i19,kQ,aW,aN,trivial⟩
              ·refine zy (cs:=[.str ⟨#[]⟩,.str ⟨#[]⟩,.str ⟨#[]⟩]) zeroValue97 Z Z<|fun i19=>z7<|bO 0 Z<|zi (ig) Z<|z7<|ak 3 Z (q9 (j:=(f.blocks[j].insts[p].op.toNat)) Ym Y8 Z Z (w8 hop.1).symm hrow)<|ak 4 Z (yv isAgg97 Y8 Z Z)<|yi<|yk (i:=6) Z (by kernel_rfl) (by kernel_rfl)<|zt Y8 Z Z Z Z Z Z .t1 Z<|z7<|yl (by kernel_rfl) ?_
               exact ⟨i19,kQ,aW,aN,trivial⟩
             ·rintro i19 _
              refine zb<|zb<|yq (γ:=Unit) [1,3,9,10,12,18,107,108,109,197,198,199] (fun u=>[(258,.bool (lh f f.blocks[j].insts[p]))]) (fun u=>[(i18,.cells 69 (bz f.blocks[j].insts[p])),(i19,.cells 97 (qF (bM f.blocks[j].insts[p].op))),(i12,.cells 60 (bk f.blocks[j]))]) (fun u=>True) ?_ (fun _ _ h=>h) ?_
              ·refine bi<|za (zc jp Z jm (by decide) Z Z)<|za (zj (c:=.fro _ _) jw Z ⟨_,.head⟩ Z)<|ae jd Z<|za (zc Zp Z Zh (by decide) Z Z)<|za (zj (c:=.str _) Zr Z ⟨_,.t1⟩ Z)<|za (Gv.lenT Zg Z)<|za (yn Z Z)<|ai Z<|zk (s:=223) Z (fun c11=>?_) (fun c11=>?_)
               ·refine z6 Z Z c11<|z6 Z Z c11<|z6 Z Z c11<|z6 Z Z c11<|z6 Z Z c11<|z6 Z Z c11<|z6 Z Z c11<|ap Z c11 Z<|ai Z<|z6 Z Z Z<|z6 Z Z Z<|z6 Z Z Z<|z6 Z Z Z<|zd Z Z<|zd Z Z<|zd Z Z<|zd Z Z<|zd Z Z<|z6 Z Z Z<|ap Z Z Z<|ai Z<|z6 Z Z Z<|z6 Z Z Z<|z6 Z Z Z<|z6 Z Z Z<|zd Z Z<|zd Z Z<|zd Z Z<|z6 Z Z Z<|z6 Z Z Z<|zd Z Z<|zd Z Z<|zd Z Z<|z6 Z Z Z<|ap Z Z Z<|z7 ?_
                exact ⟨(),kQ,⟨jb (by simp_all[lh,jA,bl]<;>grind),trivial⟩,aN,trivial⟩
               ·refine z8 Z Z c11<|za (zc Zp Z Zh (by decide) Z Z)<|z8 Z Z c11<|za (zj (c:=.str _) Zr Z ⟨_,.t1⟩ Z)<|z8 Z Z c11<|za (yz Z Z)<|z8 Z Z c11<|za (zc jp Z je (by decide) Z Z)<|z8 Z Z c11<|za (zj (c:=.int _ _) jj Z ⟨_,.head⟩ Z)<|z8 Z Z c11<|ax Z Z<|z8 Z Z c11<|za (Gv.neqB Yl Z Z)<|al Z c11 Z<|ai Z<|zk (s:=232) Z (fun c12=>?_) (fun c12=>?_)
                ·refine z6 Z Z c12<|z6 Z Z c12<|z6 Z Z c12<|z6 Z Z c12<|zd Z Z<|zd Z Z<|zd Z Z<|zd Z Z<|zd Z Z<|z6 Z Z c12<|ap Z c12 Z<|ai Z<|z6 Z Z Z<|z6 Z Z Z<|z6 Z Z Z<|z6 Z Z Z<|zd Z Z<|zd Z Z<|zd Z Z<|z6 Z Z Z<|z6 Z Z Z<|zd Z Z<|zd Z Z<|zd Z Z<|z6 Z Z Z<|ap Z Z Z<|z7 ?_
                 exact ⟨(),kQ,⟨jb (by simp_all[lh,jA,bl]<;>grind),trivial⟩,aN,trivial⟩
                ·refine z8 Z Z c12<|za (zc jp Z je (by decide) Z Z)<|z8 Z Z c12<|za (zj (c:=.int _ _) jj Z ⟨_,.head⟩ Z)<|z8 Z Z c12<|za (yn Z Z)<|z8 Z Z c12<|ai Z<|zk (s:=236) Z (fun c13=>?_) (fun c13=>?_)
                 ·refine z8 Z Z c13<|za (zc jp Z je (by decide) Z Z)<|z8 Z Z c13<|za (zj (c:=.int _ _) jj Z ⟨_,.head⟩ Z)<|z8 Z Z c13<|aa Z<|z8 Z Z c13<|zi (fp _ _) Z<|z8 Z Z c13<|aD Z<|z8 Z Z c12<|ap Z c13 Z<|al Z c12 Z<|ai Z<|zk (s:=244) Z (fun c14=>?_) (fun c14=>?_)
                  ·refine z6 Z Z c14<|z6 Z Z c14<|z6 Z Z c14<|z6 Z Z c14<|zd Z Z<|zd Z Z<|zd Z Z<|z6 Z Z c14<|z6 Z Z c14<|zd Z Z<|zd Z Z<|zd Z Z<|z6 Z Z c14<|ap Z c14 Z<|z7 ?_
                   exact ⟨(),kQ,⟨jb (by simp_all[lh,jA,bl]<;>grind),trivial⟩,aN,trivial⟩
                  ·refine z8 Z Z c14<|za (zc jp Z Z8 (by decide) Z Z)<|z8 Z Z c14<|za (zj (c:=.int _ _) Y9 Z ⟨_,.head⟩ Z)<|z8 Z Z c14<|za (yn Z Z)<|z8 Z Z c14<|ai Z<|zk (s:=248) Z (fun c15=>?_) (fun c15=>?_)
                   ·refine z8 Z Z c15<|za (zc Zp Z Zh (by decide) Z Z)<|z8 Z Z c15<|za (zj (c:=.str _) Zr Z ⟨_,.t1⟩ Z)<|z8 Z Z c15<|za (Gv.neqT Z Z)<|z8 Z Z c14<|ap Z c15 Z<|z8 Z Z c14<|ai Z<|zk (s:=253) Z (fun c16=>?_) (fun c16=>?_)
                    ·refine z8 Z Z c16<|za (zc Zp Z Zh (by decide) Z Z)<|z8 Z Z c16<|za (zj (c:=.str _) Zr Z ⟨_,.t1⟩ Z)<|z8 Z Z c16<|za (Gv.neqT Z Z)<|z8 Z Z c14<|ap Z c16 Z<|al Z c14 Z<|z7 ?_
                     exact ⟨(),kQ,⟨jb (by simp_all[lh,jA,bl]<;>grind),trivial⟩,aN,trivial⟩
                    ·refine z6 Z Z c16<|z6 Z Z c16<|z6 Z Z c16<|z8 Z Z c14<|al Z c16 Z<|al Z c14 Z<|z7 ?_
                     exact ⟨(),kQ,⟨jb (by simp_all[lh,jA,bl]<;>grind),trivial⟩,aN,trivial⟩
                   ·refine z6 Z Z c15<|z6 Z Z c15<|z6 Z Z c15<|z8 Z Z c14<|al Z c15 Z<|z8 Z Z c14<|ai Z<|z6 Z Z Z<|z6 Z Z Z<|z6 Z Z Z<|z8 Z Z c14<|al Z Z Z<|al Z c14 Z<|z7 ?_
                    exact ⟨(),kQ,⟨jb (by simp_all[lh,jA,bl]<;>grind),trivial⟩,aN,trivial⟩
                 ·refine z6 Z Z c13<|z6 Z Z c13<|z6 Z Z c13<|z6 Z Z c13<|z6 Z Z c13<|z8 Z Z c12<|al Z c13 Z<|al Z c12 Z<|ai Z<|z8 Z Z Z<|za (zc jp Z Z8 (by decide) Z Z)<|z8 Z Z Z<|za (zj (c:=.int _ _) Y9 Z ⟨_,.head⟩ Z)<|z8 Z Z Z<|za (yn Z Z)<|z8 Z Z Z<|ai Z<|zk (s:=248) Z (fun c17=>?_) (fun c17=>?_)
                  ·refine z8 Z Z c17<|za (zc Zp Z Zh (by decide) Z Z)<|z8 Z Z c17<|za (zj (c:=.str _) Zr Z ⟨_,.t1⟩ Z)<|z8 Z Z c17<|za (Gv.neqT Z Z)<|z8 Z Z Z<|ap Z c17 Z<|z8 Z Z Z<|ai Z<|zk (s:=253) Z (fun c18=>?_) (fun c18=>?_)
                   ·refine z8 Z Z c18<|za (zc Zp Z Zh (by decide) Z Z)<|z8 Z Z c18<|za (zj (c:=.str _) Zr Z ⟨_,.t1⟩ Z)<|z8 Z Z c18<|za (Gv.neqT Z Z)<|z8 Z Z Z<|ap Z c18 Z<|al Z Z Z<|z7 ?_
                    exact ⟨(),kQ,⟨jb (by simp_all[lh,jA,bl]<;>grind),trivial⟩,aN,trivial⟩
                   ·refine z6 Z Z c18<|z6 Z Z c18<|z6 Z Z c18<|z8 Z Z Z<|al Z c18 Z<|al Z Z Z<|z7 ?_
                    exact ⟨(),kQ,⟨jb (by simp_all[lh,jA,bl]<;>grind),trivial⟩,aN,trivial⟩
                  ·refine z6 Z Z c17<|z6 Z Z c17<|z6 Z Z c17<|z8 Z Z Z<|al Z c17 Z<|z8 Z Z Z<|ai Z<|z6 Z Z Z<|z6 Z Z Z<|z6 Z Z Z<|z8 Z Z Z<|al Z Z Z<|al Z Z Z<|z7 ?_
                   exact ⟨(),kQ,⟨jb (by simp_all[lh,jA,bl]<;>grind),trivial⟩,aN,trivial⟩
              ·rintro _ _
               refine zr Z (fun cw=>?_) (fun cw=>?_)
               ·refine ah<|ad Z<|z7<|zf<|zh (x:=.bool _) Z ?_
                rw[w5 (fun h=>by have:=(h.2.2.2.2.2 _ (qu hk2)).2.1 _ (qu hp2);rw[this.2.2.1] at cw;cases cw)]
               ·refine ze<|ah<|za (zc jp Z jm (by decide) Z Z)<|za (zj (c:=.fro _ _) jw Z ⟨_,.head⟩ Z)<|ae jd Z<|aa Z<|z7<|zg<|y7 (γ:=Nat) [1,3,9,10,12,107,108,109,197,198,199,260,261] (fun m=>[(262,.int .i64 m)]) (fun m=>[(i18,.cells 69 (bz f.blocks[j].insts[p])),(i12,.cells 60 (bk f.blocks[j]))]) (fun m=>m≤f.blocks[j].insts[p].args.length∧(f.blocks[j].insts[p].args.take m).all (bl f)=true) (fun m=>f.blocks[j].insts[p].args.length - m) 0 aW ⟨_,(.keep (.drop (.refl _))),Z⟩ (⟨qt _,Z⟩) ?_
                rintro m ⟨hm,ha1⟩
                refine ah<|ay Z Z<|z7<|zb<|zm Z (fun cm=>?_) (fun cm=>?_)
                ·have hm1:m<f.blocks[j].insts[p].args.length:=by omega
                 refine ze<|zb<|zg<|ah<|za (q9 jd je Z Z Z (qq (by omega)))<|aE jj Z<|aw Z<|z7<|ah<|aa Z<|aa Z<|zi (fp _ _) Z<|aD Z<|z7<|zr Z (fun ca=>?_) (fun ca=>?_)
                 ·have ca:bl f f.blocks[j].insts[p].args[m]=false:=by simp[bl] at ca ⊢;omega
                  refine ah<|ad Z<|z7<|zf<|zh (x:=.bool _) Z ?_
                  rw[w5 (fun h=>by have:=(h.2.2.2.2.2 _ (qu hk2)).2.1 _ (qu hp2);have h6:=List.all_eq_true.1 this.2.2.2 _ (qu hm1);rw[ca] at h6;cases h6)]
                 ·have ca:bl f f.blocks[j].insts[p].args[m]=true:=by simp[bl] at ca ⊢;omega
                  refine ze<|bi<|aC Z Z<|aa Z<|z7 ?_
                  exact ⟨m+1,⟨rfl,rfl,rfl,rfl,rfl,rfl,rfl,rfl,rfl,rfl,rfl,rfl,rfl,trivial⟩,aW,aN,⟨hm1,bX hm1 ha1 ca⟩,by omega⟩
                ·rw[jY (by omega)] at ha1
                 refine zz<|bi<|aC Z Z<|aa Z<|z7 ?_
                 exact ⟨p+1,⟨rfl,rfl,rfl,rfl,rfl,rfl,rfl,rfl,rfl,rfl,trivial⟩,aW,⟨_,(.drop (.refl _)),rfl⟩,⟨hp2,dP hp2 hins ⟨hop.1,hop.2,cw,ha1⟩⟩,by omega⟩
          ·rw[jY (by omega)] at hins
           refine zz<|ah<|za (zc jh Z Z4 (by decide) Z Z)<|za (Gv.loadAC (l:=[_,_,_,_]) Yo Z4 Z ⟨_,.head⟩ Z Z)<|zy (cs:=[.int .i64 0,.int .i64 0,.int .i64 0,.int .i64 0]) zeroValue58 Z Z<|fun i22=>zt Z4 Z Z Z Z Z Z .head Z<|z7<|ah<|ad Z<|z7<|zb<|ah<|za (zc jg Z Zn (by decide) Z Z)<|za (zj (c:=.int _ _) Zs Z ⟨_,.head⟩ Z)<|z7<|yq (γ:=Unit) [1,3,9,10,107,108,109] (fun u=>[(23,.bool (bj f f.blocks[j].term))]) (fun u=>[]) (fun u=>True) ?_ (fun _ _ h=>h) ?_
           ·refine zg<|ah<|ax Z Z<|ad Z<|z7<|zr Z (fun c19=>?_) (fun c19=>?_)
            ·refine bi<|za (zc jg Z Z2 (by decide) Z Z)<|za (qb (j:=0) ju je Z Z Z (by decide) Z)<|za (zj (c:=.int _ _) jj Z ⟨_,.head⟩ Z)<|aa Z<|zi (fp _ _) Z<|ai Z<|zk (s:=283) Z (fun c20=>?_) (fun c20=>?_)
             ·refine z8 Z Z c20<|za (zc jg Z Z2 (by decide) Z Z)<|z8 Z Z c20<|za (qb (j:=1) ju je Z Z Z (by decide) Z)<|z8 Z Z c20<|za (zj (c:=.int _ _) jj Z ⟨_,.head⟩ Z)<|z8 Z Z c20<|ax Z Z<|ap Z c20 Z<|ai Z<|zk (s:=289) Z (fun c21=>?_) (fun c21=>?_)
              ·refine z8 Z Z c21<|za (zc jg Z je (by decide) Z Z)<|z8 Z Z c21<|za (zj (c:=.int _ _) jj Z ⟨_,.head⟩ Z)<|z8 Z Z c21<|ax Z Z<|ap Z c21 Z<|ad Z<|z7 ?_
               exact ⟨(),iM,⟨jb (by simp_all[bj,bl,du]<;>grind),trivial⟩,⟨_,(.drop (.drop (.refl _))),rfl⟩,trivial⟩
              ·refine z6 Z Z c21<|z6 Z Z c21<|z6 Z Z c21<|al Z c21 Z<|ad Z<|z7 ?_
               exact ⟨(),iM,⟨jb (by simp_all[bj,bl,du]<;>grind),trivial⟩,⟨_,(.drop (.drop (.refl _))),rfl⟩,trivial⟩
             ·refine z6 Z Z c20<|z6 Z Z c20<|z6 Z Z c20<|z6 Z Z c20<|al Z c20 Z<|ai Z<|z6 Z Z Z<|z6 Z Z Z<|z6 Z Z Z<|al Z Z Z<|ad Z<|z7 ?_
              exact ⟨(),iM,⟨jb (by simp_all[bj,bl,du]<;>grind),trivial⟩,⟨_,(.drop (.drop (.refl _))),rfl⟩,trivial⟩
            ·refine ah<|ax Z Z<|ad Z<|z7<|zr Z (fun c22=>?_) (fun c22=>?_)
             ·refine bi<|za (zc jg Z je (by decide) Z Z)<|za (zj (c:=.int _ _) jj Z ⟨_,.head⟩ Z)<|aa Z<|zi (fp _ _) Z<|ai Z<|zk (s:=300) Z (fun c23=>?_) (fun c23=>?_)
              ·refine z8 Z Z c23<|za (zc jg Z Z2 (by decide) Z Z)<|z8 Z Z c23<|za (qb (j:=0) ju je Z Z Z (by decide) Z)<|z8 Z Z c23<|za (zj (c:=.int _ _) jj Z ⟨_,.head⟩ Z)<|z8 Z Z c23<|aa Z<|z8 Z Z c23<|zi (fp _ _) Z<|ap Z c23 Z<|ai Z<|zk (s:=307) Z (fun c24=>?_) (fun c24=>?_)
               ·refine z8 Z Z c24<|za (zc jg Z Z2 (by decide) Z Z)<|z8 Z Z c24<|za (qb (j:=1) ju je Z Z Z (by decide) Z)<|z8 Z Z c24<|za (zj (c:=.int _ _) jj Z ⟨_,.head⟩ Z)<|z8 Z Z c24<|aa Z<|z8 Z Z c24<|zi (fp _ _) Z<|ap Z c24 Z<|ad Z<|z7 ?_
                exact ⟨(),iM,⟨jb (by simp_all[bj,bl,du]<;>grind),trivial⟩,⟨_,(.drop (.drop (.refl _))),rfl⟩,trivial⟩
               ·refine z6 Z Z c24<|z6 Z Z c24<|z6 Z Z c24<|z6 Z Z c24<|z6 Z Z c24<|al Z c24 Z<|ad Z<|z7 ?_
                exact ⟨(),iM,⟨jb (by simp_all[bj,bl,du]<;>grind),trivial⟩,⟨_,(.drop (.drop (.refl _))),rfl⟩,trivial⟩
              ·refine z6 Z Z c23<|z6 Z Z c23<|z6 Z Z c23<|z6 Z Z c23<|z6 Z Z c23<|al Z c23 Z<|ai Z<|z6 Z Z Z<|z6 Z Z Z<|z6 Z Z Z<|z6 Z Z Z<|z6 Z Z Z<|al Z Z Z<|ad Z<|z7 ?_
               exact ⟨(),iM,⟨jb (by simp_all[bj,bl,du]<;>grind),trivial⟩,⟨_,(.drop (.drop (.refl _))),rfl⟩,trivial⟩
             ·refine ah<|ax Z Z<|ad Z<|z7<|zr Z (fun c25=>?_) (fun c25=>?_)
              ·refine bi<|za (zc jg Z je (by decide) Z Z)<|za (zj (c:=.int _ _) jj Z ⟨_,.head⟩ Z)<|aa Z<|zi (fp _ _) Z<|ai Z<|zk (s:=320) Z (fun c26=>?_) (fun c26=>?_)
               ·refine z8 Z Z c26<|za (zc jg Z Z2 (by decide) Z Z)<|z8 Z Z c26<|za (Gv.loadAC (l:=[_,_]) isAgg56 Z2 Z ⟨_,.head⟩ Z Z)<|z8 Z Z c26<|za (Gv.buildA (cps:=[]) (rs:=[.int .i64 0,.int .i64 0]) Gc Z Z Z)<|z8 Z Z c26<|za (Gv.eqlP (xs:=[.int _ _,.int _ _]) (ys:=[.int _ _,.int _ _]) (by kernel_rfl) Z Z (fun w=>tN _ _ _ _ w))<|ap Z c26 Z<|ad Z<|z7 ?_
                exact ⟨(),iM,⟨jb (by simp_all[bj,bl,du]<;>grind),trivial⟩,⟨_,(.drop (.drop (.refl _))),rfl⟩,trivial⟩
               ·refine z6 Z Z c26<|z6 Z Z c26<|z6 Z Z c26<|z6 Z Z c26<|al Z c26 Z<|ad Z<|z7 ?_
                exact ⟨(),iM,⟨jb (by simp_all[bj,bl,du]<;>grind),trivial⟩,⟨_,(.drop (.drop (.refl _))),rfl⟩,trivial⟩
              ·refine ze ?_
               exact ⟨(),iM,⟨jb (by simp_all[bj,bl,du]<;>grind),trivial⟩,⟨_,(.drop (.drop (.refl _))),rfl⟩,trivial⟩
           ·rintro _ _
            refine ah<|ai Z<|aD Z<|z7<|zr Z (fun ct=>?_) (fun ct=>?_)
            ·refine ah<|ad Z<|z7<|zf<|zh (x:=.bool _) Z ?_
             rw[w5 (fun h=>by have:=(h.2.2.2.2.2 _ (qu hk2)).2.2;rw[this] at ct;cases ct)]
            ·have ct:bj f f.blocks[j].term=true:=by simpa using ct
             refine ze<|bi<|aC Z Z<|aa Z<|z7 ?_
             exact ⟨j+1,vv,⟨rfl,(congrArg (AV.int .i64) (by rw[hs1];omega)),trivial⟩,aN,⟨hk2,fun i h hi=>by rcases Nat.lt_or_ge i j with h3|h3;exact hnam i h h3;obtain rfl:i=j:=(by omega);exact ⟨by simpa using cv,hno⟩,by omega,dP hk2 hblk ⟨hphi,hins,ct⟩⟩,by omega⟩
     ·have hkn:k=f.blocks.length:=by omega
      subst hkn
      rw[qv] at hsum hblk
      refine zz<|ah<|ad Z<|z7<|zf<|zh (x:=.bool _) Z ?_
      rw[w4 (show bA f from ⟨c1,hpars,hvars,fun i h=>hnam i h h,hsum,hblk⟩)]
end Go.Proofs.YtjpnhkmfhlnpcaaGreatDoor
