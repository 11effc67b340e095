/- Lines: the printer's is the document's. No conditions but bounds. -/
import Derived.Test.YtbanfokidalbaaaGreatDoorJg
import Derived.Test.YtbanfokidalbaaaGreatDoorJd
set_option linter.unusedVariables false
set_option linter.unusedSimpArgs false
set_option linter.unusedSectionVars false
namespace Go.Proofs.YtbanfokidalbaaaGreatDoor
section
open Go.Proofs.Tryz
open Go.Proofs Go.Lib Go.Shelf Go.RowKit
set_option maxRecDepth 20000
variable {E:World}
def DC (f:ad) (p:cS):Prop:=bz f p.dst=true∧p.args.length=p.from_.length∧1≤p.args.length∧p.args.all (bz f)=true∧p.from_.all (eZ f)=true
def kP (x:aN):Bool:=decide ((b9 x.op).1=⟨#[99,111,110,115,116]⟩)||decide ((b9 x.op).1=⟨#[112,105]⟩)
def n9 (f:ad) (x:aN):Bool:=!decide ((x.args.length:Int)=((b9 x.op).2.1.size:Int))||(!(decide ((b9 x.op).2.2=⟨#[]⟩) == decide (x.dst=-1))||((!decide (x.dst=-1)&&!bz f x.dst)||(!decide (x.num=0)&&!kP x)))
def ri (f:ad) (x:aN):Prop:=0≤x.op∧x.op≤26∧n9 f x=false∧x.args.all (bz f)=true
def DD (f:ad) (b:bc):Prop:=(∀p∈b.phis,DC f p)∧(∀x∈b.insts,ri f x)∧cC f b.term=true
def gP (l:List bc):Nat:=(l.map fun b=>b.phis.length+b.insts.length).sum
def sO (f:ad):Bool:=decide ((512:Int)<f.vars.length)||(decide ((8:Int)<f.params.length)||(decide ((f.vars.length:Int)<f.params.length)||(decide ((f.blocks.length:Int)<1)||decide ((64:Int)<f.blocks.length))))
def F1 (f:ad) (i:Nat) (v:vJ):Prop:=no v.name=true∧0≤v.ty∧v.ty≤2∧∀s∈(f.vars.take i).map (·.name),s≠v.name
def Ix (f:ad) (i:Nat) (b:bc):Prop:=no b.name=true∧∀s∈(f.blocks.take i).map (·.name),s≠b.name
def bx (f:ad):Prop:=sO f=false∧(∀i (h:i<f.params.length),f.params[i]=(i:Int))∧(∀i (h:i<f.vars.length),F1 f i f.vars[i])∧(∀i (h:i<f.blocks.length),Ix f i f.blocks[i])∧gP f.blocks≤1024∧∀b∈f.blocks,DD f b
instance (f:ad) (p:cS):Decidable (DC f p):=by unfold DC;infer_instance
instance (f:ad) (x:aN):Decidable (ri f x):=by unfold ri;infer_instance
instance (f:ad) (b:bc):Decidable (DD f b):=by unfold DD;infer_instance
instance (f:ad) (i:Nat) (v:vJ):Decidable (F1 f i v):=by unfold F1;infer_instance
instance (f:ad) (i:Nat) (b:bc):Decidable (Ix f i b):=by unfold Ix;infer_instance
instance (f:ad):Decidable (bx f):=by unfold bx;infer_instance
theorem Ad (l:List bc) (k:Nat):gP (l.take k)≤gP l:=by
 have:gP l=gP (l.take k)+gP (l.drop k):=by
  unfold gP;rw[←List.sum_append,←List.map_append,List.take_append_drop]
 omega
theorem rj (l:List bc) (k:Nat) (h:k<l.length):gP (l.take (k+1))=gP (l.take k)+(l[k].phis.length+l[k].insts.length):=by
 unfold gP;rw[qr h,List.map_append,List.sum_append];simp only[List.map_cons,List.map_nil,List.sum_cons,List.sum_nil,Nat.add_zero]
theorem wo {α:Type} {g:α→ByteArray} {l:List α} {k:Nat} {s:ByteArray} (h:k<l.length) (h1:∀x∈(l.take k).map g,x≠s) (h2:¬g l[k]=s):∀x∈(l.take (k+1)).map g,x≠s:=by
 rw[qr h,List.map_append]
 intro x hx
 rcases List.mem_append.1 hx with hx|hx
 ·exact h1 x hx
 ·simp only[List.map_cons,List.map_nil,List.mem_singleton] at hx;rw[hx];exact h2
theorem BF {α:Type} {g:α→ByteArray} {l:List α} {k i:Nat} {s:ByteArray} (h:k<l.length) (hk:k<i) (h1:∀x∈(l.take i).map g,x≠s):¬g l[k]=s:=by
 refine h1 _ (List.mem_map.2 ⟨l[k],?_,Z⟩)
 refine List.mem_iff_getElem?.2 ⟨k,?_⟩
 rw[List.getElem?_take,if_pos hk,qq h]
theorem bZ {α:Type} {p:α→Bool} {l:List α} {k:Nat} (h:k<l.length) (h1:(l.take k).all p=true) (h2:p l[k]=true):(l.take (k+1)).all p=true:=by
 rw[qr h,List.all_append,h1];simp[h2]
theorem dD {α:Type} {p:α→Bool} {l:List α} {k:Nat} (h:k<l.length) (h2:p l[k]=false):¬l.all p=true:=fun h3=>by
 have:=List.all_eq_true.1 h3 _ (qu h);rw[h2] at this;cases this
theorem lr {α:Type} {l:List α} {k:Nat} (h:l.length≤k):l.take k=l:=List.take_of_length_le h
theorem eN {α:Type} {p:α→Prop} {l:List α} {k:Nat} (h:k<l.length) (h1:∀x∈l.take k,p x) (h2:p l[k]):∀x∈l.take (k+1),p x:=by
 rw[qr h]
 intro x hx
 rcases List.mem_append.1 hx with hx|hx
 ·exact h1 x hx
 ·rw[List.mem_singleton.1 hx];exact h2
def nq (f:ad):Prop:=(∀v∈f.vars,v.name.size≤140737488355328)∧∀b∈f.blocks,b.name.size≤140737488355328
set_option maxHeartbeats 8000000 in
theorem rk (f:ad) (hf:uG f) (hn:nq f) (hL:aE E):aJ prog E 125 [.agg (bL f)] (.bool (decide (bx f))):=by
 obtain ⟨hf1,hf2,hf3,hf4⟩:=hf
 have hl1:=hf1.lt
 have hl2:=hf2.lt
 have hl3:=hf3.lt
 refine zo func125 Z (by decide) Z<|ah<|yb (cs:=_) Z Z Z<|ac Z<|z6<|ah<|ae je Z Zg Z Z<|aI Zp Z<|ak js Z<|ay Z<|z6<|zc<|zc<|yf (γ:=Unit) [1,3] (fun u=>[(53,.bool (sO f))]) (fun u=>[]) (fun u=>True) ?_ (fun _ _ h=>h) ?_
 ·refine aM<|aa Z<|aO Z Z<|ai Z<|zm (s:=29) Z (fun c1=>?_) (fun c1=>?_)
  ·refine z7 Z Z c1<|z7 Z Z c1<|z7 Z Z c1<|z7 Z Z c1<|ap Z c1 Z<|ai Z<|z7 Z Z Z<|z7 Z Z Z<|z7 Z Z Z<|z7 Z Z Z<|z7 Z Z Z<|ap Z Z Z<|ai Z<|z7 Z Z Z<|z7 Z Z Z<|z7 Z Z Z<|z7 Z Z Z<|ap Z Z Z<|ai Z<|z7 Z Z Z<|z7 Z Z Z<|z7 Z Z Z<|z7 Z Z Z<|ap Z Z Z<|z6 ?_
   exact ⟨(),di,⟨jb (by simp_all[sO]<;>grind),trivial⟩,aC,trivial⟩
  ·refine z8 Z Z c1<|ae je Z jg Z Z<|z8 Z Z c1<|aI jn Z<|z8 Z Z c1<|ak j9 Z<|z8 Z Z c1<|aO Z Z<|aq Z c1 Z<|ai Z<|zm (s:=35) Z (fun c2=>?_) (fun c2=>?_)
   ·refine z7 Z Z c2<|z7 Z Z c2<|z7 Z Z c2<|z7 Z Z c2<|z7 Z Z c2<|ap Z c2 Z<|ai Z<|z7 Z Z Z<|z7 Z Z Z<|z7 Z Z Z<|z7 Z Z Z<|ap Z Z Z<|ai Z<|z7 Z Z Z<|z7 Z Z Z<|z7 Z Z Z<|z7 Z Z Z<|ap Z Z Z<|z6 ?_
    exact ⟨(),di,⟨jb (by simp_all[sO]<;>grind),trivial⟩,aC,trivial⟩
   ·refine z8 Z Z c2<|ae je Z jg Z Z<|z8 Z Z c2<|aI jn Z<|z8 Z Z c2<|ak j9 Z<|z8 Z Z c2<|aa Z<|z8 Z Z c2<|aO Z Z<|aq Z c2 Z<|ai Z<|zm (s:=42) Z (fun c3=>?_) (fun c3=>?_)
    ·refine z7 Z Z c3<|z7 Z Z c3<|z7 Z Z c3<|z7 Z Z c3<|ap Z c3 Z<|ai Z<|z7 Z Z Z<|z7 Z Z Z<|z7 Z Z Z<|z7 Z Z Z<|ap Z Z Z<|z6 ?_
     exact ⟨(),di,⟨jb (by simp_all[sO]<;>grind),trivial⟩,aC,trivial⟩
    ·refine z8 Z Z c3<|ae je Z Ze Z Z<|z8 Z Z c3<|aI Zl Z<|z8 Z Z c3<|ak jk Z<|z8 Z Z c3<|aw Z Z<|aq Z c3 Z<|ai Z<|zm (s:=48) Z (fun c4=>?_) (fun c4=>?_)
     ·refine z7 Z Z c4<|z7 Z Z c4<|z7 Z Z c4<|z7 Z Z c4<|ap Z c4 Z<|z6 ?_
      exact ⟨(),di,⟨jb (by simp_all[sO]<;>grind),trivial⟩,aC,trivial⟩
     ·refine z8 Z Z c4<|ae je Z Ze Z Z<|z8 Z Z c4<|aI Zl Z<|z8 Z Z c4<|ak jk Z<|z8 Z Z c4<|aO Z Z<|aq Z c4 Z<|z6 ?_
      exact ⟨(),di,⟨jb (by simp_all[sO]<;>grind),trivial⟩,aC,trivial⟩
 ·rintro _ _
  refine zt Z (fun c1=>?_) (fun c1=>?_)
  ·refine ah<|ac Z<|z6<|zg<|zk (x:=.bool _) Z ?_
   rw[w8 (fun h=>by rw[h.1] at c1;cases c1)]
  ·have hsz:f.vars.length≤512∧f.params.length≤8∧f.params.length≤f.vars.length∧1≤f.blocks.length∧f.blocks.length≤64:=by unfold sO at c1;simp at c1;omega
   refine zd<|zc<|ah<|ae je Z jg Z Z<|aI jn Z<|ak j9 Z<|aa Z<|z6<|zh<|ya (γ:=Nat) [1,3,55,56] (fun k=>[(57,.int .i64 k)]) (fun k=>[]) (fun k=>k≤f.params.length∧∀i (h:i<f.params.length),i<k→f.params[i]=(i:Int)) (fun k=>f.params.length - k) 0 aG aC (⟨qt _,fun i h hk=>by omega⟩) ?_
   rintro k ⟨hk,hpar⟩
   refine ah<|aw Z Z<|z6<|zc<|zp Z (fun ck=>?_) (fun ck=>?_)
   ·have hk2:k<f.params.length:=by omega
    refine zd<|zc<|zh<|ah<|aa Z<|za (q9 j9 ja Z Z Z (qq (by omega)))<|ax jc Z<|ay Z<|ay Z<|z6<|ah<|aa Z<|aa Z<|aH Z Z<|z6<|zt Z (fun cp=>?_) (fun cp=>?_)
    ·refine ah<|ac Z<|z6<|zg<|zk (x:=.bool _) Z ?_
     rw[w8 (fun h=>by have:=h.2.1 k hk2;simp[this] at cp)]
    ·refine zd<|aM<|aA Z Z<|aa Z<|z6 ?_
     exact ⟨k+1,e7,aG,aC,⟨hk2,fun i h hi=>by rcases Nat.lt_or_ge i k with h3|h3;exact hpar i h h3;obtain rfl:i=k:=(by omega);simpa using cp⟩,by omega⟩
   ·have hpars:∀i (h:i<f.params.length),f.params[i]=(i:Int):=fun i h=>hpar i h (by omega)
    refine y9<|zc<|ah<|ae je Z Zg Z Z<|aI Zp Z<|ak js Z<|aa Z<|z6<|zh<|ya (γ:=Nat) [1,3,67,68] (fun k=>[(69,.int .i64 k)]) (fun k=>[]) (fun k=>k≤f.vars.length∧∀i (h:i<f.vars.length),i<k→F1 f i f.vars[i]) (fun k=>f.vars.length - k) 0 aG aC (⟨qt _,fun i h hk=>by omega⟩) ?_
    rintro k ⟨hk,hvar⟩
    refine ah<|aw Z Z<|z6<|zc<|zp Z (fun ck=>?_) (fun ck=>?_)
    ·have hk2:k<f.vars.length:=by omega
     have hnk:f.vars[k].name.size≤140737488355328:=hn.1 _ (qu hk2)
     refine zd<|zc<|zh<|ah<|aa Z<|za (q9 js Zx Z Z Z (qq (by omega)))<|ab isAgg40 Zx Z Z<|zy (cs:=[.str ⟨#[]⟩,.int .i64 0]) zeroValue40 Z Z<|fun i7=>ay Z<|zq Zx Z Z Z Z Z Z .head Z<|z6<|zc<|zc<|yf (γ:=Unit) [1,3,6,7,67,68,69] (fun u=>[(87,.bool (!no f.vars[k].name||(decide (f.vars[k].ty<0)||decide (2<f.vars[k].ty))))]) (fun u=>[(i7,.cells 40 (nQ f.vars[k]))]) (fun u=>True) ?_ (fun _ _ h=>h) ?_
     ·refine aM<|za (zr Zd Z Y6 (by decide) Z Z)<|za (zw (c:=.str _) Ym Z ⟨_,.head⟩ Z)<|ze (tG _ (by assumption) hL) Z<|aF Z<|ai Z<|zm (s:=78) Z (fun c5=>?_) (fun c5=>?_)
      ·refine z7 Z Z c5<|z7 Z Z c5<|z7 Z Z c5<|ap Z c5 Z<|ai Z<|z7 Z Z Z<|z7 Z Z Z<|z7 Z Z Z<|ap Z Z Z<|z6 ?_
       exact ⟨(),km,⟨jb (by simp_all<;>grind),trivial⟩,aC,trivial⟩
      ·refine z8 Z Z c5<|za (zr Zd Z Yj (by decide) Z Z)<|z8 Z Z c5<|za (zw (c:=.int _ _) Yv Z ⟨_,.head⟩ Z)<|z8 Z Z c5<|aw Z Z<|aq Z c5 Z<|ai Z<|zm (s:=83) Z (fun c6=>?_) (fun c6=>?_)
       ·refine z7 Z Z c6<|z7 Z Z c6<|z7 Z Z c6<|ap Z c6 Z<|z6 ?_
        exact ⟨(),km,⟨jb (by simp_all<;>grind),trivial⟩,aC,trivial⟩
       ·refine z8 Z Z c6<|za (zr Zd Z Yj (by decide) Z Z)<|z8 Z Z c6<|za (zw (c:=.int _ _) Yv Z ⟨_,.head⟩ Z)<|z8 Z Z c6<|aO Z Z<|aq Z c6 Z<|z6 ?_
        exact ⟨(),km,⟨jb (by simp_all<;>grind),trivial⟩,aC,trivial⟩
     ·rintro _ _
      refine zt Z (fun cv=>?_) (fun cv=>?_)
      ·refine ah<|ac Z<|z6<|zg<|zk (x:=.bool _) Z ?_
       rw[w8 (fun h=>by have:=h.2.2.1 k hk2;obtain ⟨h1,h2,h3,_⟩:=this;simp[h1] at cv;omega)]
      ·have hv3:no f.vars[k].name=true∧0≤f.vars[k].ty∧f.vars[k].ty≤2:=by simp at cv;omega
       refine zd<|ah<|aa Z<|aa Z<|z6<|zh<|ya (γ:=Nat) [1,3,7,67,68,69,88] (fun j=>[(89,.int .i64 j)]) (fun j=>[(i7,.cells 40 (nQ f.vars[k]))]) (fun j=>j≤k∧∀s∈(f.vars.take j).map (·.name),s≠f.vars[k].name) (fun j=>k - j) 0 aG aC (⟨qt _,by simp⟩) ?_
       rintro j ⟨hj,hno⟩
       refine ah<|aw Z Z<|z6<|zc<|zp Z (fun cj=>?_) (fun cj=>?_)
       ·have hj1:j<f.vars.length:=by omega
        refine zd<|zc<|zh<|ah<|aa Z<|ay Z<|z6<|zc<|y7 (fun j=>false) (by kernel_rfl) Z (zn (.r (.rest _)))<|au 0 Z (cA je Z Zg Z Z)<|au 1 Z (iS Zp Z)<|au 2 Z (cG Z)<|au 3 Z (q9 js Zx Z Z Z (qq (by omega)))<|au 4 Z (cA Zd Z Y6 Z Z)<|au 5 Z (yo (c:=.str _) Ym Z)<|au 6 Z (zr Zd Z Y6 (by decide) Z Z)<|au 7 Z (zw (c:=.str _) Ym Z ⟨_,.head⟩ Z)<|au 8 Z (Gv.eqlT Z Z)<|bY<|zp Z (fun ce=>?_) (fun ce=>?_)
        ·refine ah<|ac Z<|z6<|zg<|zk (x:=.bool _) Z ?_
         rw[w8 (fun h=>by exact BF (g:=vJ.name) hj1 (by omega) (h.2.2.1 k hk2).2.2.2 ce)]
        ·refine zd<|aM<|aA Z Z<|aa Z<|z6 ?_
         exact ⟨j+1,km,aG,aC,⟨by omega,wo hj1 hno ce⟩,by omega⟩
       ·obtain rfl:j=k:=by omega
        refine y9<|aM<|aA Z Z<|aa Z<|z6 ?_
        exact ⟨j+1,e7,aG,⟨_,(.drop (.refl _)),rfl⟩,⟨hk2,fun i h hi=>by rcases Nat.lt_or_ge i j with h3|h3;exact hvar i h h3;obtain rfl:i=j:=(by omega);exact ⟨hv3.1,hv3.2.1,hv3.2.2,hno⟩⟩,by omega⟩
    ·have hvars:∀i (h:i<f.vars.length),F1 f i f.vars[i]:=fun i h=>hvar i h (by omega)
     refine y9<|ah<|ae je Z Ze Z Z<|aI Zl Z<|ak jk Z<|ay Z<|z6<|ah<|ay Z<|z6<|zc<|ah<|ae je Z Ze Z Z<|aI Zl Z<|ak jk Z<|aa Z<|z6<|zh<|ya (γ:=Nat) [1,3,9,107,108] (fun g=>[(109,.int .i64 g),(10,.int .i64 (gP (f.blocks.take g)))]) (fun g=>[]) (fun g=>g≤f.blocks.length∧(∀i (h:i<f.blocks.length),i<g→Ix f i f.blocks[i])∧gP (f.blocks.take g)≤1024∧∀b∈f.blocks.take g,DD f b) (fun g=>f.blocks.length - g) 0 di aC (⟨qt _,fun i h hk=>by omega,by simp[gP],by simp⟩) ?_
     rintro k ⟨hk,hnam,hsum,hblk⟩
     refine ah<|aw Z Z<|z6<|zc<|zp Z (fun ck=>?_) (fun ck=>?_)
     ·have hk2:k<f.blocks.length:=by omega
      have hnk:f.blocks[k].name.size≤140737488355328:=hn.2 _ (qu hk2)
      obtain ⟨hb1,hb2,hb3,hb4⟩:=hf4 _ (qu hk2)
      have hl4:=hb1.lt
      have hl5:=hb2.lt
      refine zd<|zc<|zh<|ah<|aa Z<|za (q9 jk jv Z Z Z (qq (by omega)))<|ab Yk jv Z Z<|zy (cs:=[.str ⟨#[]⟩,.raw (.slice none 0 0),.raw (.slice none 0 0),.int .i64 0,.int .i64 0,.int .i64 0,.int .i64 0]) Zn Z Z<|fun i12=>ay Z<|zq jv Z Z Z Z Z Z .head Z<|z6<|zc<|ah<|za (zr jl Z Y6 (by decide) Z Z)<|za (zw (c:=.str _) Ym Z ⟨_,.head⟩ Z)<|ze (tG _ (by assumption) hL) Z<|aF Z<|z6<|zt Z (fun cv=>?_) (fun cv=>?_)
      ·refine ah<|ac Z<|z6<|zg<|zk (x:=.bool _) Z ?_
       rw[w8 (fun h=>by have:=(h.2.2.2.1 k hk2).1;simp[this] at cv)]
      ·refine zd<|zc<|ah<|aa Z<|aa Z<|z6<|zh<|ya (γ:=Nat) [1,3,9,10,12,107,108,109,118] (fun j=>[(119,.int .i64 j)]) (fun j=>[(i12,.cells 52 (d7 f.blocks[k]))]) (fun j=>j≤k∧∀s∈(f.blocks.take j).map (·.name),s≠f.blocks[k].name) (fun j=>k - j) 0 aG aC (⟨qt _,by simp⟩) ?_
       rintro j ⟨hj,hno⟩
       refine ah<|aw Z Z<|z6<|zc<|zp Z (fun cj=>?_) (fun cj=>?_)
       ·have hj1:j<f.blocks.length:=by omega
        refine zd<|zc<|zh<|ah<|aa Z<|ay Z<|z6<|zc<|y7 (fun j=>false) (by kernel_rfl) Z (zn (.r (.rest _)))<|au 0 Z (cA je Z Ze Z Z)<|au 1 Z (iS Zl Z)<|au 2 Z (cG Z)<|au 3 Z (q9 jk jv Z Z Z (qq (by omega)))<|au 4 Z (cA jl Z Y6 Z Z)<|au 5 Z (yo (c:=.str _) Ym Z)<|au 6 Z (zr jl Z Y6 (by decide) Z Z)<|au 7 Z (zw (c:=.str _) Ym Z ⟨_,.head⟩ Z)<|au 8 Z (Gv.eqlT Z Z)<|bY<|zp Z (fun ce=>?_) (fun ce=>?_)
        ·refine ah<|ac Z<|z6<|zg<|zk (x:=.bool _) Z ?_
         rw[w8 (fun h=>by exact BF (g:=bc.name) hj1 (by omega) (h.2.2.2.1 k hk2).2 ce)]
        ·refine zd<|aM<|aA Z Z<|aa Z<|z6 ?_
         exact ⟨j+1,nK,aG,aC,⟨by omega,wo hj1 hno ce⟩,by omega⟩
       ·obtain rfl:j=k:=by omega
        have hs1:=rj f.blocks j hk2
        refine y9<|ah<|aa Z<|za (zr jl Z Yh (by decide) Z Z)<|za (zw (c:=.fro _ _) Yt Z ⟨_,.head⟩ Z)<|ak Z2 Z<|aA Z Z<|za (zr jl Z Y8 (by decide) Z Z)<|za (zw (c:=.fro _ _) Yi Z ⟨_,.head⟩ Z)<|ak jx Z<|aA Z Z<|ay Z<|z6<|zc<|ah<|aa Z<|aO Z Z<|z6<|zp Z (fun cs=>?_) (fun cs=>?_)
        ·refine ah<|ac Z<|z6<|zg<|zk (x:=.bool _) Z ?_
         rw[w8 (fun h=>by have:=h.2.2.2.2.1;have:=Ad f.blocks (j+1);omega)]
        ·refine zd<|zc<|ah<|za (zr jl Z Yh (by decide) Z Z)<|za (zw (c:=.fro _ _) Yt Z ⟨_,.head⟩ Z)<|ak Z2 Z<|aa Z<|z6<|zh<|ya (γ:=Nat) [1,3,9,10,12,107,108,109,144,145] (fun p=>[(146,.int .i64 p)]) (fun p=>[(i12,.cells 52 (d7 f.blocks[j]))]) (fun p=>p≤f.blocks[j].phis.length∧∀q∈f.blocks[j].phis.take p,DC f q) (fun p=>f.blocks[j].phis.length - p) 0 aG aC (⟨qt _,by simp⟩) ?_
         rintro p ⟨hp,hphi⟩
         refine ah<|aw Z Z<|z6<|zc<|zp Z (fun cp=>?_) (fun cp=>?_)
         ·have hp2:p<f.blocks[j].phis.length:=by omega
          obtain ⟨hq1,hq2⟩:=hb3 _ (qu hp2)
          have hl6:=hq1.lt
          have hl7:=hq2.lt
          refine zd<|zc<|zh<|ah<|za (q9 Z2 jz Z Z Z (qq (by omega)))<|ab Yl jz Z Z<|zy (cs:=[.int .i64 0,.raw (.slice none 0 0),.raw (.slice none 0 0)]) Zb Z Z<|fun i15=>zq jz Z Z Z Z Z Z .head Z<|z6<|zc<|zc<|yf (γ:=Unit) [1,3,9,10,12,15,107,108,109,144,145,146] (fun u=>[(169,.bool (!bz f f.blocks[j].phis[p].dst||(!decide ((f.blocks[j].phis[p].args.length:Int)=f.blocks[j].phis[p].from_.length)||decide ((f.blocks[j].phis[p].args.length:Int)<1))))]) (fun u=>[(i15,.cells 62 (dg f.blocks[j].phis[p])),(i12,.cells 52 (d7 f.blocks[j]))]) (fun u=>True) ?_ (fun _ _ h=>h) ?_
          ·refine aM<|za (zr jt Z ja (by decide) Z Z)<|za (zw (c:=.int _ _) jc Z ⟨_,.head⟩ Z)<|aa Z<|ze (gx _ _) Z<|aF Z<|ai Z<|zm (s:=155) Z (fun c7=>?_) (fun c7=>?_)
           ·refine z7 Z Z c7<|z7 Z Z c7<|z7 Z Z c7<|z7 Z Z c7<|z7 Z Z c7<|z7 Z Z c7<|z7 Z Z c7<|ap Z c7 Z<|ai Z<|z7 Z Z Z<|z7 Z Z Z<|z7 Z Z Z<|z7 Z Z Z<|ap Z Z Z<|z6 ?_
            exact ⟨(),ec,⟨jb (by simp_all[bz]<;>grind),trivial⟩,aC,trivial⟩
           ·refine z8 Z Z c7<|za (zr jt Z jg (by decide) Z Z)<|z8 Z Z c7<|za (zw (c:=.fro _ _) jn Z ⟨_,.head⟩ Z)<|z8 Z Z c7<|ak j9 Z<|z8 Z Z c7<|za (zr jt Z jg (by decide) Z Z)<|z8 Z Z c7<|za (zw (c:=.fro _ _) jn Z ⟨_,.head⟩ Z)<|z8 Z Z c7<|ak j9 Z<|z8 Z Z c7<|aH Z Z<|aq Z c7 Z<|ai Z<|zm (s:=164) Z (fun c8=>?_) (fun c8=>?_)
            ·refine z7 Z Z c8<|z7 Z Z c8<|z7 Z Z c8<|z7 Z Z c8<|ap Z c8 Z<|z6 ?_
             exact ⟨(),ec,⟨jb (by simp_all[bz]<;>grind),trivial⟩,aC,trivial⟩
            ·refine z8 Z Z c8<|za (zr jt Z jg (by decide) Z Z)<|z8 Z Z c8<|za (zw (c:=.fro _ _) jn Z ⟨_,.head⟩ Z)<|z8 Z Z c8<|ak j9 Z<|z8 Z Z c8<|aw Z Z<|aq Z c8 Z<|z6 ?_
             exact ⟨(),ec,⟨jb (by simp_all[bz]<;>grind),trivial⟩,aC,trivial⟩
          ·rintro _ _
           refine zt Z (fun cq=>?_) (fun cq=>?_)
           ·refine ah<|ac Z<|z6<|zg<|zk (x:=.bool _) Z ?_
            rw[w8 (fun h=>by have:=(h.2.2.2.2.2 _ (qu hk2)).1 _ (qu hp2);obtain ⟨h1,h2,h3,_⟩:=this;rw[h1,h2] at cq;simp only[Bool.not_true,Bool.false_or,decide_true,wc] at cq;omega)]
           ·have hq3:bz f f.blocks[j].phis[p].dst=true∧f.blocks[j].phis[p].args.length=f.blocks[j].phis[p].from_.length∧1≤f.blocks[j].phis[p].args.length:=by
             rcases Bool.or_eq_false_iff.1 cq with ⟨a1,a2⟩
             rcases Bool.or_eq_false_iff.1 a2 with ⟨a3,a4⟩
             exact ⟨by simpa using a1,by simp only[Bool.not_eq_false',wc] at a3;omega,by have:=of_decide_eq_false a4;omega⟩
            refine zd<|ah<|za (zr jt Z jg (by decide) Z Z)<|za (zw (c:=.fro _ _) jn Z ⟨_,.head⟩ Z)<|ak j9 Z<|aa Z<|z6<|zh<|ya (γ:=Nat) [1,3,9,10,12,15,107,108,109,144,145,146,172] (fun m=>[(173,.int .i64 m)]) (fun m=>[(i15,.cells 62 (dg f.blocks[j].phis[p])),(i12,.cells 52 (d7 f.blocks[j]))]) (fun m=>m≤f.blocks[j].phis[p].args.length∧(f.blocks[j].phis[p].args.take m).all (bz f)=true∧(f.blocks[j].phis[p].from_.take m).all (eZ f)=true) (fun m=>f.blocks[j].phis[p].args.length - m) 0 aG aC (⟨qt _,Z,Z⟩) ?_
            rintro m ⟨hm,ha1,ha2⟩
            refine ah<|aw Z Z<|z6<|zc<|zp Z (fun cm=>?_) (fun cm=>?_)
            ·have hm1:m<f.blocks[j].phis[p].args.length:=by omega
             have hm2:m<f.blocks[j].phis[p].from_.length:=by omega
             refine zd<|zc<|zh<|ah<|aa Z<|ay Z<|z6<|zc<|yf (γ:=Unit) [1,3,9,10,12,15,107,108,109,144,145,146,172,173] (fun u=>[(193,.bool (!bz f f.blocks[j].phis[p].args[m]||!eZ f f.blocks[j].phis[p].from_[m]))]) (fun u=>[(i15,.cells 62 (dg f.blocks[j].phis[p])),(i12,.cells 52 (d7 f.blocks[j]))]) (fun u=>True) ?_ (fun _ _ h=>h) ?_
             ·refine aM<|za (zr jt Z jg (by decide) Z Z)<|za (zw (c:=.fro _ _) jn Z ⟨_,.head⟩ Z)<|aa Z<|za (q9 j9 ja Z Z Z (qq (by omega)))<|ax jc Z<|aa Z<|ze (gx _ _) Z<|aF Z<|ai Z<|zm (s:=184) Z (fun c9=>?_) (fun c9=>?_)
              ·refine z7 Z Z c9<|z7 Z Z c9<|z7 Z Z c9<|z7 Z Z c9<|z7 Z Z c9<|z7 Z Z c9<|z7 Z Z c9<|z7 Z Z c9<|ap Z c9 Z<|z6 ?_
               exact ⟨(),⟨rfl,rfl,rfl,rfl,rfl,rfl,rfl,rfl,rfl,rfl,rfl,rfl,rfl,rfl,trivial⟩,⟨jb (by simp_all[bz,eZ]<;>grind),trivial⟩,aC,trivial⟩
              ·refine z8 Z Z c9<|za (zr jt Z jg (by decide) Z Z)<|z8 Z Z c9<|za (zw (c:=.fro _ _) jn Z ⟨_,.head⟩ Z)<|z8 Z Z c9<|aa Z<|z8 Z Z c9<|za (q9 j9 ja Z Z Z (qq (by omega)))<|z8 Z Z c9<|ax jc Z<|z8 Z Z c9<|aa Z<|z8 Z Z c9<|ze (gx _ _) Z<|z8 Z Z c9<|aF Z<|aq Z c9 Z<|z6 ?_
               exact ⟨(),⟨rfl,rfl,rfl,rfl,rfl,rfl,rfl,rfl,rfl,rfl,rfl,rfl,rfl,rfl,trivial⟩,⟨jb (by simp_all[bz,eZ]<;>grind),trivial⟩,aC,trivial⟩
             ·rintro _ _
              refine zt Z (fun cw=>?_) (fun cw=>?_)
              ·refine ah<|ac Z<|z6<|zg<|zk (x:=.bool _) Z ?_
               rw[w8 (fun h=>by have:=(h.2.2.2.2.2 _ (qu hk2)).1 _ (qu hp2);obtain ⟨_,_,_,h4,h5⟩:=this;have h6:=List.all_eq_true.1 h4 _ (qu hm1);have h7:=List.all_eq_true.1 h5 _ (qu hm2);rw[h6,h7] at cw;cases cw)]
              ·refine zd<|aM<|aA Z Z<|aa Z<|z6 ?_
               exact ⟨m+1,sI,aG,aC,⟨hm1,bZ hm1 ha1 (by simp at cw;exact cw.1),bZ hm2 ha2 (by simp at cw;exact cw.2)⟩,by omega⟩
            ·rw[lr (by omega)] at ha1
             rw[lr (by omega)] at ha2
             refine y9<|aM<|aA Z Z<|aa Z<|z6 ?_
             exact ⟨p+1,iy,aG,⟨_,(.drop (.refl _)),rfl⟩,⟨hp2,eN hp2 hphi ⟨hq3.1,hq3.2.1,hq3.2.2,ha1,ha2⟩⟩,by omega⟩
         ·rw[lr (by omega)] at hphi
          refine y9<|zc<|ah<|za (zr jl Z Y8 (by decide) Z Z)<|za (zw (c:=.fro _ _) Yi Z ⟨_,.head⟩ Z)<|ak jx Z<|aa Z<|z6<|zh<|ya (γ:=Nat) [1,3,9,10,12,107,108,109,197,198] (fun p=>[(199,.int .i64 p)]) (fun p=>[(i12,.cells 52 (d7 f.blocks[j]))]) (fun p=>p≤f.blocks[j].insts.length∧∀q∈f.blocks[j].insts.take p,ri f q) (fun p=>f.blocks[j].insts.length - p) 0 aG aC (⟨qt _,by simp⟩) ?_
          rintro p ⟨hp,hins⟩
          refine ah<|aw Z Z<|z6<|zc<|zp Z (fun cp=>?_) (fun cp=>?_)
          ·have hp2:p<f.blocks[j].insts.length:=by omega
           have hq1:=hb4 _ (qu hp2)
           have hl6:=hq1.lt
           refine zd<|zc<|zh<|ah<|za (q9 jx Z9 Z Z Z (qq (by omega)))<|ab Ye Z9 Z Z<|zy (cs:=[.int .i64 0,.int .i64 0,.raw (.slice none 0 0),.int .i64 0]) Yf Z Z<|fun i18=>zq Z9 Z Z Z Z Z Z .head Z<|z6<|zc<|zc<|yf (γ:=Unit) [1,3,9,10,12,18,107,108,109,197,198,199] (fun u=>[(210,.bool (decide (f.blocks[j].insts[p].op<0)||decide (26<f.blocks[j].insts[p].op)))]) (fun u=>[(i18,.cells 44 (cK f.blocks[j].insts[p])),(i12,.cells 52 (d7 f.blocks[j]))]) (fun u=>True) ?_ (fun _ _ h=>h) ?_
           ·refine aM<|za (zr j8 Z Zq (by decide) Z Z)<|za (zw (c:=.int _ _) Zz Z ⟨_,.head⟩ Z)<|aw Z Z<|ai Z<|zm (s:=206) Z (fun c10=>?_) (fun c10=>?_)
            ·refine z7 Z Z c10<|z7 Z Z c10<|z7 Z Z c10<|ap Z c10 Z<|z6 ?_
             exact ⟨(),ec,⟨jb (by simp_all<;>grind),trivial⟩,aC,trivial⟩
            ·refine z8 Z Z c10<|za (zr j8 Z Zq (by decide) Z Z)<|z8 Z Z c10<|za (zw (c:=.int _ _) Zz Z ⟨_,.head⟩ Z)<|z8 Z Z c10<|aO Z Z<|aq Z c10 Z<|z6 ?_
             exact ⟨(),ec,⟨jb (by simp_all<;>grind),trivial⟩,aC,trivial⟩
           ·rintro _ _
            refine zt Z (fun cq=>?_) (fun cq=>?_)
            ·refine ah<|ac Z<|z6<|zg<|zk (x:=.bool _) Z ?_
             rw[w8 (fun h=>by have:=(h.2.2.2.2.2 _ (qu hk2)).2.1 _ (qu hp2);obtain ⟨h1,h2,_⟩:=this;simp at cq;omega)]
            ·have hop:0≤f.blocks[j].insts[p].op∧f.blocks[j].insts[p].op≤26:=by simp at cq;omega
             have hrow:gz[f.blocks[j].insts[p].op.toNat]?=some (b9 f.blocks[j].insts[p].op):=by unfold b9;rw[if_pos hop.1,qq (show _<27 by omega)];rfl
             refine zd<|zc<|yf (γ:=Nat) [1,3,9,10,12,18,107,108,109,197,198,199] (fun i=>[(19,.po i 0)]) (fun i=>[(i18,.cells 44 (cK f.blocks[j].insts[p])),(i,.cells 214 (sF (b9 f.blocks[j].insts[p].op))),(i12,.cells 52 (d7 f.blocks[j]))]) (fun i=>True) ?_ (fun _ _ h=>h) ?_
             ·refine y7 (fun j=>Nat.beq j 6) (by kernel_rfl) Z (zn (.r (.rest _)))<|au 1 Z (zr j8 Z Zq (by decide) Z Z)<|au 2 Z (zw (c:=.int _ _) Zz Z ⟨_,.head⟩ Z)<|yv (i:=0) (j:=5) Z Z (by kernel_rfl) ?_ ?_
              ·refine ze (lP) Z<|z6<|au 3 Z (q9 (j:=(f.blocks[j].insts[p].op.toNat)) underlying215 Yu Z Z (wa hop.1).symm hrow)<|au 4 Z (yk isAgg214 Yu Z Z)<|aV 5 Z<|zy (cs:=[.str ⟨#[]⟩,.str ⟨#[]⟩,.str ⟨#[]⟩]) Xa Z Z<|fun i19=>z6<|yx<|q1 (i:=6) Z (by kernel_rfl) (by kernel_rfl)<|zq Yu Z Z Z Z Z Z .t1 Z<|z6<|yz (by kernel_rfl) ?_
               exact ⟨i19,ec,aG,aC,trivial⟩
              ·refine zy (cs:=[.str ⟨#[]⟩,.str ⟨#[]⟩,.str ⟨#[]⟩]) Xa Z Z<|fun i19=>z6<|aV 0 Z<|ze (lP) Z<|z6<|au 3 Z (q9 (j:=(f.blocks[j].insts[p].op.toNat)) underlying215 Yu Z Z (wa hop.1).symm hrow)<|au 4 Z (yk isAgg214 Yu Z Z)<|yx<|q1 (i:=6) Z (by kernel_rfl) (by kernel_rfl)<|zq Yu Z Z Z Z Z Z .t1 Z<|z6<|yz (by kernel_rfl) ?_
               exact ⟨i19,ec,aG,aC,trivial⟩
             ·rintro i19 _
              refine zc<|zc<|yf (γ:=Unit) [1,3,9,10,12,18,107,108,109,197,198,199] (fun u=>[(258,.bool (n9 f f.blocks[j].insts[p]))]) (fun u=>[(i18,.cells 44 (cK f.blocks[j].insts[p])),(i19,.cells 214 (sF (b9 f.blocks[j].insts[p].op))),(i12,.cells 52 (d7 f.blocks[j]))]) (fun u=>True) ?_ (fun _ _ h=>h) ?_
              ·refine aM<|za (zr j8 Z jg (by decide) Z Z)<|za (zw (c:=.fro _ _) jn Z ⟨_,.head⟩ Z)<|ak j9 Z<|za (zr Y7 Z Y6 (by decide) Z Z)<|za (zw (c:=.str _) Ym Z ⟨_,.t1⟩ Z)<|za (Gv.lenT Zw Z)<|aH Z Z<|ai Z<|zm (s:=223) Z (fun c11=>?_) (fun c11=>?_)
               ·refine z7 Z Z c11<|z7 Z Z c11<|z7 Z Z c11<|z7 Z Z c11<|z7 Z Z c11<|z7 Z Z c11<|z7 Z Z c11<|ap Z c11 Z<|ai Z<|z7 Z Z Z<|z7 Z Z Z<|z7 Z Z Z<|z7 Z Z Z<|zb Z Z<|zb Z Z<|zb Z Z<|zb Z Z<|zb Z Z<|z7 Z Z Z<|ap Z Z Z<|ai Z<|z7 Z Z Z<|z7 Z Z Z<|z7 Z Z Z<|z7 Z Z Z<|zb Z Z<|zb Z Z<|zb Z Z<|z7 Z Z Z<|z7 Z Z Z<|zb Z Z<|zb Z Z<|zb Z Z<|z7 Z Z Z<|ap Z Z Z<|z6 ?_
                exact ⟨(),ec,⟨jb (by simp_all[n9,kP,bz]<;>grind),trivial⟩,aC,trivial⟩
               ·refine z8 Z Z c11<|za (zr Y7 Z Y6 (by decide) Z Z)<|z8 Z Z c11<|za (zw (c:=.str _) Ym Z ⟨_,.t1⟩ Z)<|z8 Z Z c11<|za (Gv.eqlT Z Z)<|z8 Z Z c11<|za (zr j8 Z ja (by decide) Z Z)<|z8 Z Z c11<|za (zw (c:=.int _ _) jc Z ⟨_,.head⟩ Z)<|z8 Z Z c11<|aj Z Z<|z8 Z Z c11<|za (Gv.neqB Zv Z Z)<|aq Z c11 Z<|ai Z<|zm (s:=232) Z (fun c12=>?_) (fun c12=>?_)
                ·refine z7 Z Z c12<|z7 Z Z c12<|z7 Z Z c12<|z7 Z Z c12<|zb Z Z<|zb Z Z<|zb Z Z<|zb Z Z<|zb Z Z<|z7 Z Z c12<|ap Z c12 Z<|ai Z<|z7 Z Z Z<|z7 Z Z Z<|z7 Z Z Z<|z7 Z Z Z<|zb Z Z<|zb Z Z<|zb Z Z<|z7 Z Z Z<|z7 Z Z Z<|zb Z Z<|zb Z Z<|zb Z Z<|z7 Z Z Z<|ap Z Z Z<|z6 ?_
                 exact ⟨(),ec,⟨jb (by simp_all[n9,kP,bz]<;>grind),trivial⟩,aC,trivial⟩
                ·refine z8 Z Z c12<|za (zr j8 Z ja (by decide) Z Z)<|z8 Z Z c12<|za (zw (c:=.int _ _) jc Z ⟨_,.head⟩ Z)<|z8 Z Z c12<|aH Z Z<|z8 Z Z c12<|ai Z<|zm (s:=236) Z (fun c13=>?_) (fun c13=>?_)
                 ·refine z8 Z Z c13<|za (zr j8 Z ja (by decide) Z Z)<|z8 Z Z c13<|za (zw (c:=.int _ _) jc Z ⟨_,.head⟩ Z)<|z8 Z Z c13<|aa Z<|z8 Z Z c13<|ze (gx _ _) Z<|z8 Z Z c13<|aF Z<|z8 Z Z c12<|ap Z c13 Z<|aq Z c12 Z<|ai Z<|zm (s:=244) Z (fun c14=>?_) (fun c14=>?_)
                  ·refine z7 Z Z c14<|z7 Z Z c14<|z7 Z Z c14<|z7 Z Z c14<|zb Z Z<|zb Z Z<|zb Z Z<|z7 Z Z c14<|z7 Z Z c14<|zb Z Z<|zb Z Z<|zb Z Z<|z7 Z Z c14<|ap Z c14 Z<|z6 ?_
                   exact ⟨(),ec,⟨jb (by simp_all[n9,kP,bz]<;>grind),trivial⟩,aC,trivial⟩
                  ·refine z8 Z Z c14<|za (zr j8 Z ji (by decide) Z Z)<|z8 Z Z c14<|za (zw (c:=.int _ _) jp Z ⟨_,.head⟩ Z)<|z8 Z Z c14<|aH Z Z<|z8 Z Z c14<|ai Z<|zm (s:=248) Z (fun c15=>?_) (fun c15=>?_)
                   ·refine z8 Z Z c15<|za (zr Y7 Z Y6 (by decide) Z Z)<|z8 Z Z c15<|za (zw (c:=.str _) Ym Z ⟨_,.t1⟩ Z)<|z8 Z Z c15<|za (Gv.neqT Z Z)<|z8 Z Z c14<|ap Z c15 Z<|z8 Z Z c14<|ai Z<|zm (s:=253) Z (fun c16=>?_) (fun c16=>?_)
                    ·refine z8 Z Z c16<|za (zr Y7 Z Y6 (by decide) Z Z)<|z8 Z Z c16<|za (zw (c:=.str _) Ym Z ⟨_,.t1⟩ Z)<|z8 Z Z c16<|za (Gv.neqT Z Z)<|z8 Z Z c14<|ap Z c16 Z<|aq Z c14 Z<|z6 ?_
                     exact ⟨(),ec,⟨jb (by simp_all[n9,kP,bz]<;>grind),trivial⟩,aC,trivial⟩
                    ·refine z7 Z Z c16<|z7 Z Z c16<|z7 Z Z c16<|z8 Z Z c14<|aq Z c16 Z<|aq Z c14 Z<|z6 ?_
                     exact ⟨(),ec,⟨jb (by simp_all[n9,kP,bz]<;>grind),trivial⟩,aC,trivial⟩
                   ·refine z7 Z Z c15<|z7 Z Z c15<|z7 Z Z c15<|z8 Z Z c14<|aq Z c15 Z<|z8 Z Z c14<|ai Z<|z7 Z Z Z<|z7 Z Z Z<|z7 Z Z Z<|z8 Z Z c14<|aq Z Z Z<|aq Z c14 Z<|z6 ?_
                    exact ⟨(),ec,⟨jb (by simp_all[n9,kP,bz]<;>grind),trivial⟩,aC,trivial⟩
                 ·refine z7 Z Z c13<|z7 Z Z c13<|z7 Z Z c13<|z7 Z Z c13<|z7 Z Z c13<|z8 Z Z c12<|aq Z c13 Z<|aq Z c12 Z<|ai Z<|z8 Z Z Z<|za (zr j8 Z ji (by decide) Z Z)<|z8 Z Z Z<|za (zw (c:=.int _ _) jp Z ⟨_,.head⟩ Z)<|z8 Z Z Z<|aH Z Z<|z8 Z Z Z<|ai Z<|zm (s:=248) Z (fun c17=>?_) (fun c17=>?_)
                  ·refine z8 Z Z c17<|za (zr Y7 Z Y6 (by decide) Z Z)<|z8 Z Z c17<|za (zw (c:=.str _) Ym Z ⟨_,.t1⟩ Z)<|z8 Z Z c17<|za (Gv.neqT Z Z)<|z8 Z Z Z<|ap Z c17 Z<|z8 Z Z Z<|ai Z<|zm (s:=253) Z (fun c18=>?_) (fun c18=>?_)
                   ·refine z8 Z Z c18<|za (zr Y7 Z Y6 (by decide) Z Z)<|z8 Z Z c18<|za (zw (c:=.str _) Ym Z ⟨_,.t1⟩ Z)<|z8 Z Z c18<|za (Gv.neqT Z Z)<|z8 Z Z Z<|ap Z c18 Z<|aq Z Z Z<|z6 ?_
                    exact ⟨(),ec,⟨jb (by simp_all[n9,kP,bz]<;>grind),trivial⟩,aC,trivial⟩
                   ·refine z7 Z Z c18<|z7 Z Z c18<|z7 Z Z c18<|z8 Z Z Z<|aq Z c18 Z<|aq Z Z Z<|z6 ?_
                    exact ⟨(),ec,⟨jb (by simp_all[n9,kP,bz]<;>grind),trivial⟩,aC,trivial⟩
                  ·refine z7 Z Z c17<|z7 Z Z c17<|z7 Z Z c17<|z8 Z Z Z<|aq Z c17 Z<|z8 Z Z Z<|ai Z<|z7 Z Z Z<|z7 Z Z Z<|z7 Z Z Z<|z8 Z Z Z<|aq Z Z Z<|aq Z Z Z<|z6 ?_
                   exact ⟨(),ec,⟨jb (by simp_all[n9,kP,bz]<;>grind),trivial⟩,aC,trivial⟩
              ·rintro _ _
               refine zt Z (fun cw=>?_) (fun cw=>?_)
               ·refine ah<|ac Z<|z6<|zg<|zk (x:=.bool _) Z ?_
                rw[w8 (fun h=>by have:=(h.2.2.2.2.2 _ (qu hk2)).2.1 _ (qu hp2);rw[this.2.2.1] at cw;cases cw)]
               ·refine zd<|ah<|za (zr j8 Z jg (by decide) Z Z)<|za (zw (c:=.fro _ _) jn Z ⟨_,.head⟩ Z)<|ak j9 Z<|aa Z<|z6<|zh<|ya (γ:=Nat) [1,3,9,10,12,107,108,109,197,198,199,260,261] (fun m=>[(262,.int .i64 m)]) (fun m=>[(i18,.cells 44 (cK f.blocks[j].insts[p])),(i12,.cells 52 (d7 f.blocks[j]))]) (fun m=>m≤f.blocks[j].insts[p].args.length∧(f.blocks[j].insts[p].args.take m).all (bz f)=true) (fun m=>f.blocks[j].insts[p].args.length - m) 0 aG ⟨_,(.keep (.drop (.refl _))),Z⟩ (⟨qt _,Z⟩) ?_
                rintro m ⟨hm,ha1⟩
                refine ah<|aw Z Z<|z6<|zc<|zp Z (fun cm=>?_) (fun cm=>?_)
                ·have hm1:m<f.blocks[j].insts[p].args.length:=by omega
                 refine zd<|zc<|zh<|ah<|za (q9 j9 ja Z Z Z (qq (by omega)))<|ax jc Z<|ay Z<|z6<|ah<|aa Z<|aa Z<|ze (gx _ _) Z<|aF Z<|z6<|zt Z (fun ca=>?_) (fun ca=>?_)
                 ·have ca:bz f f.blocks[j].insts[p].args[m]=false:=by simp[bz] at ca ⊢;omega
                  refine ah<|ac Z<|z6<|zg<|zk (x:=.bool _) Z ?_
                  rw[w8 (fun h=>by have:=(h.2.2.2.2.2 _ (qu hk2)).2.1 _ (qu hp2);have h6:=List.all_eq_true.1 this.2.2.2 _ (qu hm1);rw[ca] at h6;cases h6)]
                 ·have ca:bz f f.blocks[j].insts[p].args[m]=true:=by simp[bz] at ca ⊢;omega
                  refine zd<|aM<|aA Z Z<|aa Z<|z6 ?_
                  exact ⟨m+1,sI,aG,aC,⟨hm1,bZ hm1 ha1 ca⟩,by omega⟩
                ·rw[lr (by omega)] at ha1
                 refine y9<|aM<|aA Z Z<|aa Z<|z6 ?_
                 exact ⟨p+1,iy,aG,⟨_,(.drop (.refl _)),rfl⟩,⟨hp2,eN hp2 hins ⟨hop.1,hop.2,cw,ha1⟩⟩,by omega⟩
          ·rw[lr (by omega)] at hins
           refine y9<|ah<|za (zr jl Z Ya (by decide) Z Z)<|za (Gv.loadAC (l:=[_,_,_,_]) isAgg49 Ya Z ⟨_,.head⟩ Z Z)<|zy (cs:=[.int .i64 0,.int .i64 0,.int .i64 0,.int .i64 0]) zeroValue49 Z Z<|fun i22=>zq Ya Z Z Z Z Z Z .head Z<|z6<|ah<|ac Z<|z6<|zc<|ah<|za (zr jj Z Yg (by decide) Z Z)<|za (zw (c:=.int _ _) Ys Z ⟨_,.head⟩ Z)<|z6<|yf (γ:=Unit) [1,3,9,10,107,108,109] (fun u=>[(23,.bool (cC f f.blocks[j].term))]) (fun u=>[]) (fun u=>True) ?_ (fun _ _ h=>h) ?_
           ·refine zh<|ah<|aj Z Z<|ac Z<|z6<|zt Z (fun c19=>?_) (fun c19=>?_)
            ·refine aM<|za (zr jj Z Zk (by decide) Z Z)<|za (Gv.idxAO (j:=0) Z4 ja Z Z Z (by decide) Z)<|za (zw (c:=.int _ _) jc Z ⟨_,.head⟩ Z)<|aa Z<|ze (gx _ _) Z<|ai Z<|zm (s:=283) Z (fun c20=>?_) (fun c20=>?_)
             ·refine z8 Z Z c20<|za (zr jj Z Zk (by decide) Z Z)<|z8 Z Z c20<|za (Gv.idxAO (j:=1) Z4 ja Z Z Z (by decide) Z)<|z8 Z Z c20<|za (zw (c:=.int _ _) jc Z ⟨_,.head⟩ Z)<|z8 Z Z c20<|aj Z Z<|ap Z c20 Z<|ai Z<|zm (s:=289) Z (fun c21=>?_) (fun c21=>?_)
              ·refine z8 Z Z c21<|za (zr jj Z ja (by decide) Z Z)<|z8 Z Z c21<|za (zw (c:=.int _ _) jc Z ⟨_,.head⟩ Z)<|z8 Z Z c21<|aj Z Z<|ap Z c21 Z<|ac Z<|z6 ?_
               exact ⟨(),km,⟨jb (by simp_all[cC,bz,eZ]<;>grind),trivial⟩,⟨_,(.drop (.drop (.refl _))),rfl⟩,trivial⟩
              ·refine z7 Z Z c21<|z7 Z Z c21<|z7 Z Z c21<|aq Z c21 Z<|ac Z<|z6 ?_
               exact ⟨(),km,⟨jb (by simp_all[cC,bz,eZ]<;>grind),trivial⟩,⟨_,(.drop (.drop (.refl _))),rfl⟩,trivial⟩
             ·refine z7 Z Z c20<|z7 Z Z c20<|z7 Z Z c20<|z7 Z Z c20<|aq Z c20 Z<|ai Z<|z7 Z Z Z<|z7 Z Z Z<|z7 Z Z Z<|aq Z Z Z<|ac Z<|z6 ?_
              exact ⟨(),km,⟨jb (by simp_all[cC,bz,eZ]<;>grind),trivial⟩,⟨_,(.drop (.drop (.refl _))),rfl⟩,trivial⟩
            ·refine ah<|aj Z Z<|ac Z<|z6<|zt Z (fun c22=>?_) (fun c22=>?_)
             ·refine aM<|za (zr jj Z ja (by decide) Z Z)<|za (zw (c:=.int _ _) jc Z ⟨_,.head⟩ Z)<|aa Z<|ze (gx _ _) Z<|ai Z<|zm (s:=300) Z (fun c23=>?_) (fun c23=>?_)
              ·refine z8 Z Z c23<|za (zr jj Z Zk (by decide) Z Z)<|z8 Z Z c23<|za (Gv.idxAO (j:=0) Z4 ja Z Z Z (by decide) Z)<|z8 Z Z c23<|za (zw (c:=.int _ _) jc Z ⟨_,.head⟩ Z)<|z8 Z Z c23<|aa Z<|z8 Z Z c23<|ze (gx _ _) Z<|ap Z c23 Z<|ai Z<|zm (s:=307) Z (fun c24=>?_) (fun c24=>?_)
               ·refine z8 Z Z c24<|za (zr jj Z Zk (by decide) Z Z)<|z8 Z Z c24<|za (Gv.idxAO (j:=1) Z4 ja Z Z Z (by decide) Z)<|z8 Z Z c24<|za (zw (c:=.int _ _) jc Z ⟨_,.head⟩ Z)<|z8 Z Z c24<|aa Z<|z8 Z Z c24<|ze (gx _ _) Z<|ap Z c24 Z<|ac Z<|z6 ?_
                exact ⟨(),km,⟨jb (by simp_all[cC,bz,eZ]<;>grind),trivial⟩,⟨_,(.drop (.drop (.refl _))),rfl⟩,trivial⟩
               ·refine z7 Z Z c24<|z7 Z Z c24<|z7 Z Z c24<|z7 Z Z c24<|z7 Z Z c24<|aq Z c24 Z<|ac Z<|z6 ?_
                exact ⟨(),km,⟨jb (by simp_all[cC,bz,eZ]<;>grind),trivial⟩,⟨_,(.drop (.drop (.refl _))),rfl⟩,trivial⟩
              ·refine z7 Z Z c23<|z7 Z Z c23<|z7 Z Z c23<|z7 Z Z c23<|z7 Z Z c23<|aq Z c23 Z<|ai Z<|z7 Z Z Z<|z7 Z Z Z<|z7 Z Z Z<|z7 Z Z Z<|z7 Z Z Z<|aq Z Z Z<|ac Z<|z6 ?_
               exact ⟨(),km,⟨jb (by simp_all[cC,bz,eZ]<;>grind),trivial⟩,⟨_,(.drop (.drop (.refl _))),rfl⟩,trivial⟩
             ·refine ah<|aj Z Z<|ac Z<|z6<|zt Z (fun c25=>?_) (fun c25=>?_)
              ·refine aM<|za (zr jj Z ja (by decide) Z Z)<|za (zw (c:=.int _ _) jc Z ⟨_,.head⟩ Z)<|aa Z<|ze (gx _ _) Z<|ai Z<|zm (s:=320) Z (fun c26=>?_) (fun c26=>?_)
               ·refine z8 Z Z c26<|za (zr jj Z Zk (by decide) Z Z)<|z8 Z Z c26<|za (Gv.loadAC (l:=[_,_]) isAgg47 Zk Z ⟨_,.head⟩ Z Z)<|z8 Z Z c26<|za (Gv.buildA (cps:=[]) (rs:=[.int .i64 0,.int .i64 0]) LY Z Z Z)<|z8 Z Z c26<|za (Gv.eqlP (xs:=[.int _ _,.int _ _]) (ys:=[.int _ _,.int _ _]) (by kernel_rfl) Z Z (fun w=>wn _ _ _ _ w))<|ap Z c26 Z<|ac Z<|z6 ?_
                exact ⟨(),km,⟨jb (by simp_all[cC,bz,eZ]<;>grind),trivial⟩,⟨_,(.drop (.drop (.refl _))),rfl⟩,trivial⟩
               ·refine z7 Z Z c26<|z7 Z Z c26<|z7 Z Z c26<|z7 Z Z c26<|aq Z c26 Z<|ac Z<|z6 ?_
                exact ⟨(),km,⟨jb (by simp_all[cC,bz,eZ]<;>grind),trivial⟩,⟨_,(.drop (.drop (.refl _))),rfl⟩,trivial⟩
              ·refine zd ?_
               exact ⟨(),km,⟨jb (by simp_all[cC,bz,eZ]<;>grind),trivial⟩,⟨_,(.drop (.drop (.refl _))),rfl⟩,trivial⟩
           ·rintro _ _
            refine ah<|ai Z<|aF Z<|z6<|zt Z (fun ct=>?_) (fun ct=>?_)
            ·refine ah<|ac Z<|z6<|zg<|zk (x:=.bool _) Z ?_
             rw[w8 (fun h=>by have:=(h.2.2.2.2.2 _ (qu hk2)).2.2;rw[this] at ct;cases ct)]
            ·have ct:cC f f.blocks[j].term=true:=by simpa using ct
             refine zd<|aM<|aA Z Z<|aa Z<|z6 ?_
             exact ⟨j+1,iT,⟨rfl,(congrArg (AV.int .i64) (by rw[hs1];omega)),trivial⟩,aC,⟨hk2,fun i h hi=>by rcases Nat.lt_or_ge i j with h3|h3;exact hnam i h h3;obtain rfl:i=j:=(by omega);exact ⟨by simpa using cv,hno⟩,by omega,eN hk2 hblk ⟨hphi,hins,ct⟩⟩,by omega⟩
     ·have hkn:k=f.blocks.length:=by omega
      subst hkn
      rw[qv] at hsum hblk
      refine y9<|ah<|ac Z<|z6<|zg<|zk (x:=.bool _) Z ?_
      rw[w7 (show bx f from ⟨c1,hpars,hvars,fun i h=>hnam i h h,hsum,hblk⟩)]
end
section
open Go.Proofs.Tryz
open Go.Proofs Go.Lib Go.Shelf Go.RowKit
theorem Nk:el prog 62 #[(0,1),(1,1),(2,1)] [.int .i64 0,.raw (.slice none 0 0),.raw (.slice none 0 0)]:=⟨_,_,jt,Zb,fun w=>by kernel_rfl,rfl⟩
set_option maxRecDepth 20000
variable {E:World}
def F2 (b:bc):Prop:=b.name.size≤1000∧b.phis.length≤1000∧b.insts.length≤1000∧(∀p∈b.phis,p.args.length≤1000∧p.from_.length≤1000)∧∀x∈b.insts,x.args.length≤1000
def small (f:ad):Prop:=f.vars.length≤1000∧f.params.length≤1000∧f.blocks.length≤1000∧(∀v∈f.vars,v.name.size≤1000)∧∀b∈f.blocks,F2 b
theorem small.ok {f:ad} (h:small f):uG f:=by
 obtain ⟨h1,h2,h3,h4,h5⟩:=h
 refine ⟨by unfold sv;omega,by unfold sv;omega,by unfold sv;omega,fun b hb=>?_⟩
 obtain ⟨g1,g2,g3,g4,g5⟩:=h5 b hb
 exact ⟨by unfold sv;omega,by unfold sv;omega,fun p hp=>⟨by have:=g4 p hp;unfold sv;omega,by have:=g4 p hp;unfold sv;omega⟩,fun x hx=>by have:=g5 x hx;unfold sv;omega⟩
theorem small.names {f:ad} (h:small f):nq f:=⟨fun v hv=>by have:=h.2.2.2.1 v hv;omega,fun b hb=>by have:=(h.2.2.2.2 b hb).1;omega⟩
theorem F3 {α:Type} {enc:α→List AV} (h:∀x,(enc x).all AV.cell=true) (xs:List α):(xs.map enc).flatten.all AV.cell=true:=by
 induction xs with
 |nil=>rfl
 |cons x xs ih=>simp only[List.map_cons,List.flatten_cons,List.all_append,h,ih,Bool.and_self]
end
section
open Go.Proofs.Tryz
open Go.Proofs Go.Lib Go.Shelf Go.RowKit
set_option maxRecDepth 20000
variable {E:World}
end
section
open Go.Proofs.Tryz
open Go.Proofs Go.Lib Go.Shelf Go.RowKit
set_option maxRecDepth 20000
variable {E:World}
def wV (l:List vJ):Nat:=(l.map fun v=>v.name.size).sum
def wP (l:List cS):Nat:=(l.map fun p=>p.args.length+p.from_.length).sum
def wX (l:List aN):Nat:=(l.map fun x=>x.args.length).sum
def wB (b:bc):Nat:=b.name.size+10*(b.phis.length+b.insts.length)+wP b.phis+wX b.insts
def Ae (l:List bc):Nat:=(l.map wB).sum
theorem Iy {l:List vJ} {k:Nat} (h:k<l.length):wV (l.take (k+1))=wV (l.take k)+l[k].name.size:=by
 unfold wV;rw[qr h,List.map_append,List.sum_append];simp only[List.map_cons,List.map_nil,List.sum_cons,List.sum_nil,Nat.add_zero]
theorem Iz {l:List cS} {k:Nat} (h:k<l.length):wP (l.take (k+1))=wP (l.take k)+(l[k].args.length+l[k].from_.length):=by
 unfold wP;rw[qr h,List.map_append,List.sum_append];simp only[List.map_cons,List.map_nil,List.sum_cons,List.sum_nil,Nat.add_zero]
theorem IA {l:List aN} {k:Nat} (h:k<l.length):wX (l.take (k+1))=wX (l.take k)+l[k].args.length:=by
 unfold wX;rw[qr h,List.map_append,List.sum_append];simp only[List.map_cons,List.map_nil,List.sum_cons,List.sum_nil,Nat.add_zero]
theorem wq {l:List bc} {k:Nat} (h:k<l.length):Ae (l.take (k+1))=Ae (l.take k)+wB l[k]:=by
 unfold Ae;rw[qr h,List.map_append,List.sum_append];simp only[List.map_cons,List.map_nil,List.sum_cons,List.sum_nil,Nat.add_zero]
def BG (b:bc):Prop:=b.name.size≤400∧b.phis.length≤400∧b.insts.length≤400∧(∀p∈b.phis,p.args.length≤400∧p.from_.length≤400)∧∀x∈b.insts,x.args.length≤400
def oa (f:ad):Prop:=f.vars.length≤100∧f.blocks.length≤40∧f.params.length≤20∧(∀v∈f.vars,v.name.size≤400)∧(∀b∈f.blocks,BG b)∧(f.blocks≠[]→wV f.vars+Ae f.blocks≤4000)
theorem oa.small {f:ad} (h:oa f):small f:=by
 obtain ⟨h1,h2,h3,h4,h5,_⟩:=h
 refine ⟨by omega,by omega,by omega,fun v hv=>by have:=h4 v hv;omega,fun b hb=>?_⟩
 obtain ⟨g1,g2,g3,g4,g5⟩:=h5 b hb
 exact ⟨by omega,by omega,by omega,fun p hp=>by have:=g4 p hp;omega,fun x hx=>by have:=g5 x hx;omega⟩
def wL {α:Type} (l:List α):Prop:=l.length≤9223372036854775807
def L3 (p:cS):Prop:=wL p.args∧wL p.from_
def L4 (b:bc):Prop:=wL b.phis∧wL b.insts∧(∀p∈b.phis,L3 p)∧(∀x∈b.insts,wL x.args)
def tH (f:ad):Prop:=wL f.vars∧wL f.params∧wL f.blocks∧∀b∈f.blocks,L4 b
theorem wL.lt {α:Type} {l:List α} (h:wL l):l.length≤9223372036854775807:=h
def DE (f:ad):Bool:=decide ((100:Int)<f.vars.length)||(decide ((40:Int)<f.blocks.length)||decide ((20:Int)<f.params.length))
def DF (b:bc):Bool:=decide ((400:Int)<b.name.size)||(decide ((400:Int)<b.phis.length)||decide ((400:Int)<b.insts.length))
end
section
open Go.Proofs.Tryz
open Go.Proofs Go.Lib Go.Shelf Go.RowKit
set_option maxRecDepth 20000
variable {E:World}
end
section
open Go.Proofs.Tryz
open Go.Proofs Go.Lib Go.Shelf Go.RowKit
set_option maxRecDepth 20000
variable {E:World}
theorem IB:∀r∈gz,r.1≠⟨#[]⟩:=by decide
theorem IC {op:Int} (h:0≤op∧op≤26):(b9 op).1≠⟨#[]⟩:=by
 have hm:b9 op∈gz:=by
  unfold b9
  rw[if_pos h.1,qq (show _<27 by omega)]
  exact qu _
 exact IB _ hm
theorem F4:∀j:Nat,j<27→pT (j:Int)=(decide ((b9 (j:Int)).1=⟨#[99,111,110,115,116]⟩)||decide ((b9 (j:Int)).1=⟨#[112,105]⟩)):=by decide
theorem tI {x:aN} (h:0≤x.op∧x.op≤26):kP x=pT x.op:=by
 have:=F4 x.op.toNat (by omega)
 rw[wa h.1] at this
 unfold kP;exact this.symm
theorem ob (op:Int):(bq op).length=(b9 op).2.1.size:=by unfold bq;rw[qx];exact Array.length_toList
theorem DG (b:ByteArray):b.data.toList.isEmpty=decide (b=⟨#[]⟩):=by
 obtain ⟨⟨l⟩⟩:=b
 cases l<;>simp
theorem lQ (op:Int):eK op=!decide ((b9 op).2.2=⟨#[]⟩):=by unfold eK;rw[DG]
theorem DH {op:Int} (h:¬(0≤op∧op≤26)):b9 op=(⟨#[]⟩,⟨#[]⟩,⟨#[]⟩):=vI (by unfold sE;simp;omega)
theorem rm (f:ad) (x:aN):dJ f x=true↔ri f x:=by
 by_cases h:0≤x.op∧x.op≤26
 ·have hw:=IC h
  have hn:=tI h
  unfold dJ gH gO ri n9
  rw[ob,lQ,hn]
  by_cases h1:x.args.length=(b9 x.op).2.1.size<;>by_cases h2:(b9 x.op).2.2=⟨#[]⟩<;>by_cases h3:x.dst=-1<;>by_cases h4:x.num=0<;>by_cases h5:x.args.all (bz f)=true<;>simp_all[Int.ofNat_inj]<;>(try (unfold bz;simp))<;>(try grind)
 ·constructor
  ·intro h2
   have:=DH h
   unfold dJ gH at h2
   rw[this] at h2;simp at h2
  ·intro h2;exact absurd ⟨h2.1,h2.2.1⟩ h
def only (f:ad) (x:aN):ad:={ f with blocks:=[⟨⟨#[111,110,108,121]⟩,[],[x],⟨0,0,0,0⟩⟩] }
end
end Go.Proofs.YtbanfokidalbaaaGreatDoor
