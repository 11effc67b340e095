/- Contracts whose answers are one's own, or known henceforth. No conditions. -/
import Derived.Test.YtbconpmnckokoaaGreatDoorJc
set_option linter.unusedVariables false
set_option linter.unusedSimpArgs false
set_option linter.unusedSectionVars false
namespace Go.Proofs.YtbconpmnckokoaaGreatDoor
section
open Go.Proofs.Tryz
open Go.Proofs Go.Lib Go.Shelf Go.RowKit
set_option maxRecDepth 20000
variable {E:World}
def q9 (f:ap) (p:dv):Prop:=bb f p.dst=true∧p.args.length=p.from_.length∧1≤p.args.length∧p.args.all (bb f)=true∧p.from_.all (da f)=true
def ez (x:aN):Bool:=decide ((bf x.op).1=⟨#[99,111,110,115,116]⟩)||decide ((bf x.op).1=⟨#[112,105]⟩)
def fZ (f:ap) (x:aN):Bool:=!decide ((x.args.length:Int)=((bf x.op).2.1.size:Int))||(!(decide ((bf x.op).2.2=⟨#[]⟩) == decide (x.dst=-1))||((!decide (x.dst=-1)&&!bb f x.dst)||(!decide (x.num=0)&&!ez x)))
def iy (f:ap) (x:aN):Prop:=0≤x.op∧x.op≤26∧fZ f x=false∧x.args.all (bb f)=true
def re (f:ap) (b:aC):Prop:=(∀p∈b.phis,q9 f p)∧(∀x∈b.insts,iy f x)∧bj f b.term=true
def dq (l:List aC):Nat:=(l.map fun b=>b.phis.length+b.insts.length).sum
def kO (f:ap):Bool:=decide ((512:Int)<f.vars.length)||(decide ((8:Int)<f.params.length)||(decide ((f.vars.length:Int)<f.params.length)||(decide ((f.blocks.length:Int)<1)||decide ((64:Int)<f.blocks.length))))
def si (f:ap) (i:Nat) (v:fY):Prop:=fF v.name=true∧0≤v.ty∧v.ty≤2∧∀s∈(f.vars.take i).map (·.name),s≠v.name
def uC (f:ap) (i:Nat) (b:aC):Prop:=fF b.name=true∧∀s∈(f.blocks.take i).map (·.name),s≠b.name
def cI (f:ap):Prop:=kO f=false∧(∀i (h:i<f.params.length),f.params[i]=(i:Int))∧(∀i (h:i<f.vars.length),si f i f.vars[i])∧(∀i (h:i<f.blocks.length),uC f i f.blocks[i])∧dq f.blocks≤1024∧∀b∈f.blocks,re f b
instance (f:ap) (p:dv):Decidable (q9 f p):=by unfold q9;infer_instance
instance (f:ap) (x:aN):Decidable (iy f x):=by unfold iy;infer_instance
instance (f:ap) (b:aC):Decidable (re f b):=by unfold re;infer_instance
instance (f:ap) (i:Nat) (v:fY):Decidable (si f i v):=by unfold si;infer_instance
instance (f:ap) (i:Nat) (b:aC):Decidable (uC f i b):=by unfold uC;infer_instance
instance (f:ap):Decidable (cI f):=by unfold cI;infer_instance
theorem mC (l:List aC) (k:Nat):dq (l.take k)≤dq l:=by
 have:dq l=dq (l.take k)+dq (l.drop k):=by
  unfold dq;rw[←List.sum_append,←List.map_append,List.take_append_drop]
 omega
theorem iz (l:List aC) (k:Nat) (h:k<l.length):dq (l.take (k+1))=dq (l.take k)+(l[k].phis.length+l[k].insts.length):=by
 unfold dq;rw[yu h,List.map_append,List.sum_append];simp only[List.map_cons,List.map_nil,List.sum_cons,List.sum_nil,Nat.add_zero]
theorem lL {α:Type} {g:α→ByteArray} {l:List α} {k:Nat} {s:ByteArray} (h:k<l.length) (h1:∀x∈(l.take k).map g,x≠s) (h2:¬g l[k]=s):∀x∈(l.take (k+1)).map g,x≠s:=by
 rw[yu h,List.map_append]
 intro x hx
 rcases List.mem_append.1 hx with hx|hx
 ·exact h1 x hx
 ·simp only[List.map_cons,List.map_nil,List.mem_singleton] at hx;rw[hx];exact h2
theorem nw {α:Type} {g:α→ByteArray} {l:List α} {k i:Nat} {s:ByteArray} (h:k<l.length) (hk:k<i) (h1:∀x∈(l.take i).map g,x≠s):¬g l[k]=s:=by
 refine h1 _ (List.mem_map.2 ⟨l[k],?_,Z⟩)
 refine List.mem_iff_getElem?.2 ⟨k,?_⟩
 rw[List.getElem?_take,if_pos hk,yt h]
theorem bS {α:Type} {p:α→Bool} {l:List α} {k:Nat} (h:k<l.length) (h1:(l.take k).all p=true) (h2:p l[k]=true):(l.take (k+1)).all p=true:=by
 rw[yu h,List.all_append,h1];simp[h2]
theorem dw {α:Type} {p:α→Bool} {l:List α} {k:Nat} (h:k<l.length) (h2:p l[k]=false):¬l.all p=true:=fun h3=>by
 have:=List.all_eq_true.1 h3 _ (yx h);rw[h2] at this;cases this
theorem eR {α:Type} {l:List α} {k:Nat} (h:l.length≤k):l.take k=l:=List.take_of_length_le h
theorem cr {α:Type} {p:α→Prop} {l:List α} {k:Nat} (h:k<l.length) (h1:∀x∈l.take k,p x) (h2:p l[k]):∀x∈l.take (k+1),p x:=by
 rw[yu h]
 intro x hx
 rcases List.mem_append.1 hx with hx|hx
 ·exact h1 x hx
 ·rw[List.mem_singleton.1 hx];exact h2
def fG (f:ap):Prop:=(∀v∈f.vars,v.name.size≤140737488355328)∧∀b∈f.blocks,b.name.size≤140737488355328
set_option maxHeartbeats 8000000 in
theorem iA (f:ap) (hf:iw f) (hn:fG f) (hL:ac E):aQ prog E 40 [.agg (bP f)] (.bool (decide (cI f))):=by
 obtain ⟨hf1,hf2,hf3,hf4⟩:=hf
 have hl1:=hf1.lt
 have hl2:=hf2.lt
 have hl3:=hf3.lt
 refine zk func40 Z (by decide) Z<|aj<|zy (cs:=_) Z Z Z<|ae Z<|z7<|aj<|ax j4 Z Z8 Z Z<|aU Ze Z<|ad jn Z<|aw Z<|z7<|za<|za<|yl (γ:=Unit) [1,3] (fun u=>[(53,.bool (kO f))]) (fun u=>[]) (fun u=>True) ?_ (fun _ _ h=>h) ?_
 ·refine bA<|ab Z<|z8 (ym Z Z)<|ah Z<|zi (s:=29) Z (fun c1=>?_) (fun c1=>?_)
  ·refine z2 Z Z c1<|z2 Z Z c1<|z2 Z Z c1<|z2 Z Z c1<|ai Z c1 Z<|ah Z<|z2 Z Z Z<|z2 Z Z Z<|z2 Z Z Z<|z2 Z Z Z<|z2 Z Z Z<|ai Z Z Z<|ah Z<|z2 Z Z Z<|z2 Z Z Z<|z2 Z Z Z<|z2 Z Z Z<|ai Z Z Z<|ah Z<|z2 Z Z Z<|z2 Z Z Z<|z2 Z Z Z<|z2 Z Z Z<|ai Z Z Z<|z7 ?_
   exact ⟨(),fT,⟨jb (by simp_all[kO]<;>grind),trivial⟩,aX,trivial⟩
  ·refine z6 Z Z c1<|ax j4 Z je Z Z<|z6 Z Z c1<|aU jj Z<|z6 Z Z c1<|ad j6 Z<|z6 Z Z c1<|z8 (ym Z Z)<|ak Z c1 Z<|ah Z<|zi (s:=35) Z (fun c2=>?_) (fun c2=>?_)
   ·refine z2 Z Z c2<|z2 Z Z c2<|z2 Z Z c2<|z2 Z Z c2<|z2 Z Z c2<|ai Z c2 Z<|ah Z<|z2 Z Z Z<|z2 Z Z Z<|z2 Z Z Z<|z2 Z Z Z<|ai Z Z Z<|ah Z<|z2 Z Z Z<|z2 Z Z Z<|z2 Z Z Z<|z2 Z Z Z<|ai Z Z Z<|z7 ?_
    exact ⟨(),fT,⟨jb (by simp_all[kO]<;>grind),trivial⟩,aX,trivial⟩
   ·refine z6 Z Z c2<|ax j4 Z je Z Z<|z6 Z Z c2<|aU jj Z<|z6 Z Z c2<|ad j6 Z<|z6 Z Z c2<|ab Z<|z6 Z Z c2<|z8 (ym Z Z)<|ak Z c2 Z<|ah Z<|zi (s:=42) Z (fun c3=>?_) (fun c3=>?_)
    ·refine z2 Z Z c3<|z2 Z Z c3<|z2 Z Z c3<|z2 Z Z c3<|ai Z c3 Z<|ah Z<|z2 Z Z Z<|z2 Z Z Z<|z2 Z Z Z<|z2 Z Z Z<|ai Z Z Z<|z7 ?_
     exact ⟨(),fT,⟨jb (by simp_all[kO]<;>grind),trivial⟩,aX,trivial⟩
    ·refine z6 Z Z c3<|ax j4 Z jp Z Z<|z6 Z Z c3<|aU jw Z<|z6 Z Z c3<|ad j8 Z<|z6 Z Z c3<|aB Z Z<|ak Z c3 Z<|ah Z<|zi (s:=48) Z (fun c4=>?_) (fun c4=>?_)
     ·refine z2 Z Z c4<|z2 Z Z c4<|z2 Z Z c4<|z2 Z Z c4<|ai Z c4 Z<|z7 ?_
      exact ⟨(),fT,⟨jb (by simp_all[kO]<;>grind),trivial⟩,aX,trivial⟩
     ·refine z6 Z Z c4<|ax j4 Z jp Z Z<|z6 Z Z c4<|aU jw Z<|z6 Z Z c4<|ad j8 Z<|z6 Z Z c4<|z8 (ym Z Z)<|ak Z c4 Z<|z7 ?_
      exact ⟨(),fT,⟨jb (by simp_all[kO]<;>grind),trivial⟩,aX,trivial⟩
 ·rintro _ _
  refine zn Z (fun c1=>?_) (fun c1=>?_)
  ·refine aj<|ae Z<|z7<|zd<|zg (x:=.bool _) Z ?_
   rw[q0 (fun h=>by rw[h.1] at c1;cases c1)]
  ·have hsz:f.vars.length≤512∧f.params.length≤8∧f.params.length≤f.vars.length∧1≤f.blocks.length∧f.blocks.length≤64:=by unfold kO at c1;simp at c1;omega
   refine ze<|za<|aj<|ax j4 Z je Z Z<|aU jj Z<|ad j6 Z<|ab Z<|z7<|zh<|zt (γ:=Nat) [1,3,55,56] (fun k=>[(57,.int .i64 k)]) (fun k=>[]) (fun k=>k≤f.params.length∧∀i (h:i<f.params.length),i<k→f.params[i]=(i:Int)) (fun k=>f.params.length - k) 0 bg aX (⟨yw _,fun i h hk=>by omega⟩) ?_
   rintro k ⟨hk,hpar⟩
   refine aj<|aB Z Z<|z7<|za<|zq Z (fun ck=>?_) (fun ck=>?_)
   ·have hk2:k<f.params.length:=by omega
    refine ze<|za<|zh<|aj<|ab Z<|z8 (yc j6 jc Z Z Z (yt (by omega)))<|aP jf Z<|aw Z<|aw Z<|z7<|aj<|ab Z<|ab Z<|aD Z Z<|z7<|zn Z (fun cp=>?_) (fun cp=>?_)
    ·refine aj<|ae Z<|z7<|zd<|zg (x:=.bool _) Z ?_
     rw[q0 (fun h=>by have:=h.2.1 k hk2;simp[this] at cp)]
    ·refine ze<|bA<|aI Z Z<|ab Z<|z7 ?_
     exact ⟨k+1,iv,bg,aX,⟨hk2,fun i h hi=>by rcases Nat.lt_or_ge i k with h3|h3;exact hpar i h h3;obtain rfl:i=k:=(by omega);simpa using cp⟩,by omega⟩
   ·have hpars:∀i (h:i<f.params.length),f.params[i]=(i:Int):=fun i h=>hpar i h (by omega)
    refine zu<|za<|aj<|ax j4 Z Z8 Z Z<|aU Ze Z<|ad jn Z<|ab Z<|z7<|zh<|zt (γ:=Nat) [1,3,67,68] (fun k=>[(69,.int .i64 k)]) (fun k=>[]) (fun k=>k≤f.vars.length∧∀i (h:i<f.vars.length),i<k→si f i f.vars[i]) (fun k=>f.vars.length - k) 0 bg aX (⟨yw _,fun i h hk=>by omega⟩) ?_
    rintro k ⟨hk,hvar⟩
    refine aj<|aB Z Z<|z7<|za<|zq Z (fun ck=>?_) (fun ck=>?_)
    ·have hk2:k<f.vars.length:=by omega
     have hnk:f.vars[k].name.size≤140737488355328:=hn.1 _ (yx hk2)
     refine ze<|za<|zh<|aj<|ab Z<|z8 (yc jn Z5 Z Z Z (yt (by omega)))<|aa isAgg73 Z5 Z Z<|zo (cs:=[.str ⟨#[]⟩,.int .i64 0]) zeroValue73 Z Z<|fun i7=>aw Z<|zm Z5 Z Z Z Z Z Z .head Z<|z7<|za<|za<|yl (γ:=Unit) [1,3,6,7,67,68,69] (fun u=>[(87,.bool (!fF f.vars[k].name||(decide (f.vars[k].ty<0)||decide (2<f.vars[k].ty))))]) (fun u=>[(i7,.cells 73 (bz f.vars[k]))]) (fun u=>True) ?_ (fun _ _ h=>h) ?_
     ·refine bA<|z8 (zf ju Z js (by decide) Z Z)<|z8 (zj (c:=.str _) jz Z ⟨_,.head⟩ Z)<|zc (kw _ (by assumption) hL) Z<|aJ Z<|ah Z<|zi (s:=78) Z (fun c5=>?_) (fun c5=>?_)
      ·refine z2 Z Z c5<|z2 Z Z c5<|z2 Z Z c5<|ai Z c5 Z<|ah Z<|z2 Z Z Z<|z2 Z Z Z<|z2 Z Z Z<|ai Z Z Z<|z7 ?_
       exact ⟨(),jT,⟨jb (by simp_all<;>grind),trivial⟩,aX,trivial⟩
      ·refine z6 Z Z c5<|z8 (zf ju Z sizeOf71 (by decide) Z Z)<|z6 Z Z c5<|z8 (zj (c:=.int _ _) isAgg71 Z ⟨_,.head⟩ Z)<|z6 Z Z c5<|aB Z Z<|ak Z c5 Z<|ah Z<|zi (s:=83) Z (fun c6=>?_) (fun c6=>?_)
       ·refine z2 Z Z c6<|z2 Z Z c6<|z2 Z Z c6<|ai Z c6 Z<|z7 ?_
        exact ⟨(),jT,⟨jb (by simp_all<;>grind),trivial⟩,aX,trivial⟩
       ·refine z6 Z Z c6<|z8 (zf ju Z sizeOf71 (by decide) Z Z)<|z6 Z Z c6<|z8 (zj (c:=.int _ _) isAgg71 Z ⟨_,.head⟩ Z)<|z6 Z Z c6<|z8 (ym Z Z)<|ak Z c6 Z<|z7 ?_
        exact ⟨(),jT,⟨jb (by simp_all<;>grind),trivial⟩,aX,trivial⟩
     ·rintro _ _
      refine zn Z (fun cv=>?_) (fun cv=>?_)
      ·refine aj<|ae Z<|z7<|zd<|zg (x:=.bool _) Z ?_
       rw[q0 (fun h=>by have:=h.2.2.1 k hk2;obtain ⟨h1,h2,h3,_⟩:=this;simp[h1] at cv;omega)]
      ·have hv3:fF f.vars[k].name=true∧0≤f.vars[k].ty∧f.vars[k].ty≤2:=by simp at cv;omega
       refine ze<|aj<|ab Z<|ab Z<|z7<|zh<|zt (γ:=Nat) [1,3,7,67,68,69,88] (fun j=>[(89,.int .i64 j)]) (fun j=>[(i7,.cells 73 (bz f.vars[k]))]) (fun j=>j≤k∧∀s∈(f.vars.take j).map (·.name),s≠f.vars[k].name) (fun j=>k - j) 0 bg aX (⟨yw _,by simp⟩) ?_
       rintro j ⟨hj,hno⟩
       refine aj<|aB Z Z<|z7<|za<|zq Z (fun cj=>?_) (fun cj=>?_)
       ·have hj1:j<f.vars.length:=by omega
        refine ze<|za<|zh<|aj<|ab Z<|aw Z<|z7<|za<|zx (fun j=>false) (by kernel_rfl) Z (yd (.r (.rest _)))<|aR 0 Z (jS j4 Z Z8 Z Z)<|aR 1 Z (q5 Ze Z)<|aR 2 Z (jR Z)<|aR 3 Z (yc jn Z5 Z Z Z (yt (by omega)))<|aR 4 Z (jS ju Z js Z Z)<|aR 5 Z (Gv.load1F (c:=.str _) jz Z)<|aR 6 Z (zf ju Z js (by decide) Z Z)<|aR 7 Z (zj (c:=.str _) jz Z ⟨_,.head⟩ Z)<|aR 8 Z (Gv.eqlT Z Z)<|jQ<|zq Z (fun ce=>?_) (fun ce=>?_)
        ·refine aj<|ae Z<|z7<|zd<|zg (x:=.bool _) Z ?_
         rw[q0 (fun h=>by exact nw (g:=fY.name) hj1 (by omega) (h.2.2.1 k hk2).2.2.2 ce)]
        ·refine ze<|bA<|aI Z Z<|ab Z<|z7 ?_
         exact ⟨j+1,jT,bg,aX,⟨by omega,lL hj1 hno ce⟩,by omega⟩
       ·obtain rfl:j=k:=by omega
        refine zu<|bA<|aI Z Z<|ab Z<|z7 ?_
        exact ⟨j+1,iv,bg,⟨_,(.drop (.refl _)),rfl⟩,⟨hk2,fun i h hi=>by rcases Nat.lt_or_ge i j with h3|h3;exact hvar i h h3;obtain rfl:i=j:=(by omega);exact ⟨hv3.1,hv3.2.1,hv3.2.2,hno⟩⟩,by omega⟩
    ·have hvars:∀i (h:i<f.vars.length),si f i f.vars[i]:=fun i h=>hvar i h (by omega)
     refine zu<|aj<|ax j4 Z jp Z Z<|aU jw Z<|ad j8 Z<|aw Z<|z7<|aj<|aw Z<|z7<|za<|aj<|ax j4 Z jp Z Z<|aU jw Z<|ad j8 Z<|ab Z<|z7<|zh<|zt (γ:=Nat) [1,3,9,107,108] (fun g=>[(109,.int .i64 g),(10,.int .i64 (dq (f.blocks.take g)))]) (fun g=>[]) (fun g=>g≤f.blocks.length∧(∀i (h:i<f.blocks.length),i<g→uC f i f.blocks[i])∧dq (f.blocks.take g)≤1024∧∀b∈f.blocks.take g,re f b) (fun g=>f.blocks.length - g) 0 fT aX (⟨yw _,fun i h hk=>by omega,by simp[dq],by simp⟩) ?_
     rintro k ⟨hk,hnam,hsum,hblk⟩
     refine aj<|aB Z Z<|z7<|za<|zq Z (fun ck=>?_) (fun ck=>?_)
     ·have hk2:k<f.blocks.length:=by omega
      have hnk:f.blocks[k].name.size≤140737488355328:=hn.2 _ (yx hk2)
      obtain ⟨hb1,hb2,hb3,hb4⟩:=hf4 _ (yx hk2)
      have hl4:=hb1.lt
      have hl5:=hb2.lt
      refine ze<|za<|zh<|aj<|ab Z<|z8 (yc j8 jg Z Z Z (yt (by omega)))<|aa Zc jg Z Z<|zo (cs:=[.str ⟨#[]⟩,.raw (.slice none 0 0),.raw (.slice none 0 0),.int .i64 0,.int .i64 0,.int .i64 0,.int .i64 0]) jt Z Z<|fun i12=>aw Z<|zm jg Z Z Z Z Z Z .head Z<|z7<|za<|aj<|z8 (zf wy Z js (by decide) Z Z)<|z8 (zj (c:=.str _) jz Z ⟨_,.head⟩ Z)<|zc (kw _ (by assumption) hL) Z<|aJ Z<|z7<|zn Z (fun cv=>?_) (fun cv=>?_)
      ·refine aj<|ae Z<|z7<|zd<|zg (x:=.bool _) Z ?_
       rw[q0 (fun h=>by have:=(h.2.2.2.1 k hk2).1;simp[this] at cv)]
      ·refine ze<|za<|aj<|ab Z<|ab Z<|z7<|zh<|zt (γ:=Nat) [1,3,9,10,12,107,108,109,118] (fun j=>[(119,.int .i64 j)]) (fun j=>[(i12,.cells 62 (aO f.blocks[k]))]) (fun j=>j≤k∧∀s∈(f.blocks.take j).map (·.name),s≠f.blocks[k].name) (fun j=>k - j) 0 bg aX (⟨yw _,by simp⟩) ?_
       rintro j ⟨hj,hno⟩
       refine aj<|aB Z Z<|z7<|za<|zq Z (fun cj=>?_) (fun cj=>?_)
       ·have hj1:j<f.blocks.length:=by omega
        refine ze<|za<|zh<|aj<|ab Z<|aw Z<|z7<|za<|zx (fun j=>false) (by kernel_rfl) Z (yd (.r (.rest _)))<|aR 0 Z (jS j4 Z jp Z Z)<|aR 1 Z (q5 jw Z)<|aR 2 Z (jR Z)<|aR 3 Z (yc j8 jg Z Z Z (yt (by omega)))<|aR 4 Z (jS wy Z js Z Z)<|aR 5 Z (Gv.load1F (c:=.str _) jz Z)<|aR 6 Z (zf wy Z js (by decide) Z Z)<|aR 7 Z (zj (c:=.str _) jz Z ⟨_,.head⟩ Z)<|aR 8 Z (Gv.eqlT Z Z)<|jQ<|zq Z (fun ce=>?_) (fun ce=>?_)
        ·refine aj<|ae Z<|z7<|zd<|zg (x:=.bool _) Z ?_
         rw[q0 (fun h=>by exact nw (g:=aC.name) hj1 (by omega) (h.2.2.2.1 k hk2).2 ce)]
        ·refine ze<|bA<|aI Z Z<|ab Z<|z7 ?_
         exact ⟨j+1,ul,bg,aX,⟨by omega,lL hj1 hno ce⟩,by omega⟩
       ·obtain rfl:j=k:=by omega
        have hs1:=iz f.blocks j hk2
        refine zu<|aj<|ab Z<|z8 (zf wy Z Z2 (by decide) Z Z)<|z8 (zj (c:=.fro _ _) Zd Z ⟨_,.head⟩ Z)<|ad ji Z<|aI Z Z<|z8 (zf wy Z jl (by decide) Z Z)<|z8 (zj (c:=.fro _ _) Z0 Z ⟨_,.head⟩ Z)<|ad ja Z<|aI Z Z<|aw Z<|z7<|za<|aj<|ab Z<|z8 (ym Z Z)<|z7<|zq Z (fun cs=>?_) (fun cs=>?_)
        ·refine aj<|ae Z<|z7<|zd<|zg (x:=.bool _) Z ?_
         rw[q0 (fun h=>by have:=h.2.2.2.2.1;have:=mC f.blocks (j+1);omega)]
        ·refine ze<|za<|aj<|z8 (zf wy Z Z2 (by decide) Z Z)<|z8 (zj (c:=.fro _ _) Zd Z ⟨_,.head⟩ Z)<|ad ji Z<|ab Z<|z7<|zh<|zt (γ:=Nat) [1,3,9,10,12,107,108,109,144,145] (fun p=>[(146,.int .i64 p)]) (fun p=>[(i12,.cells 62 (aO f.blocks[j]))]) (fun p=>p≤f.blocks[j].phis.length∧∀q∈f.blocks[j].phis.take p,q9 f q) (fun p=>f.blocks[j].phis.length - p) 0 bg aX (⟨yw _,by simp⟩) ?_
         rintro p ⟨hp,hphi⟩
         refine aj<|aB Z Z<|z7<|za<|zq Z (fun cp=>?_) (fun cp=>?_)
         ·have hp2:p<f.blocks[j].phis.length:=by omega
          obtain ⟨hq1,hq2⟩:=hb3 _ (yx hp2)
          have hl6:=hq1.lt
          have hl7:=hq2.lt
          refine ze<|za<|zh<|aj<|z8 (yc ji jq Z Z Z (yt (by omega)))<|aa isAgg77 jq Z Z<|zo (cs:=[.int .i64 0,.raw (.slice none 0 0),.raw (.slice none 0 0)]) Z9 Z Z<|fun i15=>zm jq Z Z Z Z Z Z .head Z<|z7<|za<|za<|yl (γ:=Unit) [1,3,9,10,12,15,107,108,109,144,145,146] (fun u=>[(169,.bool (!bb f f.blocks[j].phis[p].dst||(!decide ((f.blocks[j].phis[p].args.length:Int)=f.blocks[j].phis[p].from_.length)||decide ((f.blocks[j].phis[p].args.length:Int)<1))))]) (fun u=>[(i15,.cells 77 (bm f.blocks[j].phis[p])),(i12,.cells 62 (aO f.blocks[j]))]) (fun u=>True) ?_ (fun _ _ h=>h) ?_
          ·refine bA<|z8 (zf jd Z jc (by decide) Z Z)<|z8 (zj (c:=.int _ _) jf Z ⟨_,.head⟩ Z)<|ab Z<|zc (di _ _) Z<|aJ Z<|ah Z<|zi (s:=155) Z (fun c7=>?_) (fun c7=>?_)
           ·refine z2 Z Z c7<|z2 Z Z c7<|z2 Z Z c7<|z2 Z Z c7<|z2 Z Z c7<|z2 Z Z c7<|z2 Z Z c7<|ai Z c7 Z<|ah Z<|z2 Z Z Z<|z2 Z Z Z<|z2 Z Z Z<|z2 Z Z Z<|ai Z Z Z<|z7 ?_
            exact ⟨(),fg,⟨jb (by simp_all[bb]<;>grind),trivial⟩,aX,trivial⟩
           ·refine z6 Z Z c7<|z8 (zf jd Z je (by decide) Z Z)<|z6 Z Z c7<|z8 (zj (c:=.fro _ _) jj Z ⟨_,.head⟩ Z)<|z6 Z Z c7<|ad j6 Z<|z6 Z Z c7<|z8 (zf jd Z je (by decide) Z Z)<|z6 Z Z c7<|z8 (zj (c:=.fro _ _) jj Z ⟨_,.head⟩ Z)<|z6 Z Z c7<|ad j6 Z<|z6 Z Z c7<|aD Z Z<|ak Z c7 Z<|ah Z<|zi (s:=164) Z (fun c8=>?_) (fun c8=>?_)
            ·refine z2 Z Z c8<|z2 Z Z c8<|z2 Z Z c8<|z2 Z Z c8<|ai Z c8 Z<|z7 ?_
             exact ⟨(),fg,⟨jb (by simp_all[bb]<;>grind),trivial⟩,aX,trivial⟩
            ·refine z6 Z Z c8<|z8 (zf jd Z je (by decide) Z Z)<|z6 Z Z c8<|z8 (zj (c:=.fro _ _) jj Z ⟨_,.head⟩ Z)<|z6 Z Z c8<|ad j6 Z<|z6 Z Z c8<|aB Z Z<|ak Z c8 Z<|z7 ?_
             exact ⟨(),fg,⟨jb (by simp_all[bb]<;>grind),trivial⟩,aX,trivial⟩
          ·rintro _ _
           refine zn Z (fun cq=>?_) (fun cq=>?_)
           ·refine aj<|ae Z<|z7<|zd<|zg (x:=.bool _) Z ?_
            rw[q0 (fun h=>by have:=(h.2.2.2.2.2 _ (yx hk2)).1 _ (yx hp2);obtain ⟨h1,h2,h3,_⟩:=this;rw[h1,h2] at cq;simp only[Bool.not_true,Bool.false_or,decide_true,decide_eq_true_eq] at cq;omega)]
           ·have hq3:bb f f.blocks[j].phis[p].dst=true∧f.blocks[j].phis[p].args.length=f.blocks[j].phis[p].from_.length∧1≤f.blocks[j].phis[p].args.length:=by
             rcases Bool.or_eq_false_iff.1 cq with ⟨a1,a2⟩
             rcases Bool.or_eq_false_iff.1 a2 with ⟨a3,a4⟩
             exact ⟨by simpa using a1,by simp only[Bool.not_eq_false',decide_eq_true_eq] at a3;omega,by have:=of_decide_eq_false a4;omega⟩
            refine ze<|aj<|z8 (zf jd Z je (by decide) Z Z)<|z8 (zj (c:=.fro _ _) jj Z ⟨_,.head⟩ Z)<|ad j6 Z<|ab Z<|z7<|zh<|zt (γ:=Nat) [1,3,9,10,12,15,107,108,109,144,145,146,172] (fun m=>[(173,.int .i64 m)]) (fun m=>[(i15,.cells 77 (bm f.blocks[j].phis[p])),(i12,.cells 62 (aO f.blocks[j]))]) (fun m=>m≤f.blocks[j].phis[p].args.length∧(f.blocks[j].phis[p].args.take m).all (bb f)=true∧(f.blocks[j].phis[p].from_.take m).all (da f)=true) (fun m=>f.blocks[j].phis[p].args.length - m) 0 bg aX (⟨yw _,Z,Z⟩) ?_
            rintro m ⟨hm,ha1,ha2⟩
            refine aj<|aB Z Z<|z7<|za<|zq Z (fun cm=>?_) (fun cm=>?_)
            ·have hm1:m<f.blocks[j].phis[p].args.length:=by omega
             have hm2:m<f.blocks[j].phis[p].from_.length:=by omega
             refine ze<|za<|zh<|aj<|ab Z<|aw Z<|z7<|za<|yl (γ:=Unit) [1,3,9,10,12,15,107,108,109,144,145,146,172,173] (fun u=>[(193,.bool (!bb f f.blocks[j].phis[p].args[m]||!da f f.blocks[j].phis[p].from_[m]))]) (fun u=>[(i15,.cells 77 (bm f.blocks[j].phis[p])),(i12,.cells 62 (aO f.blocks[j]))]) (fun u=>True) ?_ (fun _ _ h=>h) ?_
             ·refine bA<|z8 (zf jd Z je (by decide) Z Z)<|z8 (zj (c:=.fro _ _) jj Z ⟨_,.head⟩ Z)<|ab Z<|z8 (yc j6 jc Z Z Z (yt (by omega)))<|aP jf Z<|ab Z<|zc (di _ _) Z<|aJ Z<|ah Z<|zi (s:=184) Z (fun c9=>?_) (fun c9=>?_)
              ·refine z2 Z Z c9<|z2 Z Z c9<|z2 Z Z c9<|z2 Z Z c9<|z2 Z Z c9<|z2 Z Z c9<|z2 Z Z c9<|z2 Z Z c9<|ai Z c9 Z<|z7 ?_
               exact ⟨(),⟨rfl,rfl,rfl,rfl,rfl,rfl,rfl,rfl,rfl,rfl,rfl,rfl,rfl,rfl,trivial⟩,⟨jb (by simp_all[bb,da]<;>grind),trivial⟩,aX,trivial⟩
              ·refine z6 Z Z c9<|z8 (zf jd Z je (by decide) Z Z)<|z6 Z Z c9<|z8 (zj (c:=.fro _ _) jj Z ⟨_,.head⟩ Z)<|z6 Z Z c9<|ab Z<|z6 Z Z c9<|z8 (yc j6 jc Z Z Z (yt (by omega)))<|z6 Z Z c9<|aP jf Z<|z6 Z Z c9<|ab Z<|z6 Z Z c9<|zc (di _ _) Z<|z6 Z Z c9<|aJ Z<|ak Z c9 Z<|z7 ?_
               exact ⟨(),⟨rfl,rfl,rfl,rfl,rfl,rfl,rfl,rfl,rfl,rfl,rfl,rfl,rfl,rfl,trivial⟩,⟨jb (by simp_all[bb,da]<;>grind),trivial⟩,aX,trivial⟩
             ·rintro _ _
              refine zn Z (fun cw=>?_) (fun cw=>?_)
              ·refine aj<|ae Z<|z7<|zd<|zg (x:=.bool _) Z ?_
               rw[q0 (fun h=>by have:=(h.2.2.2.2.2 _ (yx hk2)).1 _ (yx hp2);obtain ⟨_,_,_,h4,h5⟩:=this;have h6:=List.all_eq_true.1 h4 _ (yx hm1);have h7:=List.all_eq_true.1 h5 _ (yx hm2);rw[h6,h7] at cw;cases cw)]
              ·refine ze<|bA<|aI Z Z<|ab Z<|z7 ?_
               exact ⟨m+1,⟨rfl,rfl,rfl,rfl,rfl,rfl,rfl,rfl,rfl,rfl,rfl,rfl,rfl,trivial⟩,bg,aX,⟨hm1,bS hm1 ha1 (by simp at cw;exact cw.1),bS hm2 ha2 (by simp at cw;exact cw.2)⟩,by omega⟩
            ·rw[eR (by omega)] at ha1
             rw[eR (by omega)] at ha2
             refine zu<|bA<|aI Z Z<|ab Z<|z7 ?_
             exact ⟨p+1,⟨rfl,rfl,rfl,rfl,rfl,rfl,rfl,rfl,rfl,rfl,trivial⟩,bg,⟨_,(.drop (.refl _)),rfl⟩,⟨hp2,cr hp2 hphi ⟨hq3.1,hq3.2.1,hq3.2.2,ha1,ha2⟩⟩,by omega⟩
         ·rw[eR (by omega)] at hphi
          refine zu<|za<|aj<|z8 (zf wy Z jl (by decide) Z Z)<|z8 (zj (c:=.fro _ _) Z0 Z ⟨_,.head⟩ Z)<|ad ja Z<|ab Z<|z7<|zh<|zt (γ:=Nat) [1,3,9,10,12,107,108,109,197,198] (fun p=>[(199,.int .i64 p)]) (fun p=>[(i12,.cells 62 (aO f.blocks[j]))]) (fun p=>p≤f.blocks[j].insts.length∧∀q∈f.blocks[j].insts.take p,iy f q) (fun p=>f.blocks[j].insts.length - p) 0 bg aX (⟨yw _,by simp⟩) ?_
          rintro p ⟨hp,hins⟩
          refine aj<|aB Z Z<|z7<|za<|zq Z (fun cp=>?_) (fun cp=>?_)
          ·have hp2:p<f.blocks[j].insts.length:=by omega
           have hq1:=hb4 _ (yx hp2)
           have hl6:=hq1.lt
           refine ze<|za<|zh<|aj<|z8 (yc ja jh Z Z Z (yt (by omega)))<|aa Z7 jh Z Z<|zo (cs:=[.int .i64 0,.int .i64 0,.raw (.slice none 0 0),.int .i64 0]) Z1 Z Z<|fun i18=>zm jh Z Z Z Z Z Z .head Z<|z7<|za<|za<|yl (γ:=Unit) [1,3,9,10,12,18,107,108,109,197,198,199] (fun u=>[(210,.bool (decide (f.blocks[j].insts[p].op<0)||decide (26<f.blocks[j].insts[p].op)))]) (fun u=>[(i18,.cells 67 (aW f.blocks[j].insts[p])),(i12,.cells 62 (aO f.blocks[j]))]) (fun u=>True) ?_ (fun _ _ h=>h) ?_
           ·refine bA<|z8 (zf wz Z jx (by decide) Z Z)<|z8 (zj (c:=.int _ _) Z3 Z ⟨_,.head⟩ Z)<|aB Z Z<|ah Z<|zi (s:=206) Z (fun c10=>?_) (fun c10=>?_)
            ·refine z2 Z Z c10<|z2 Z Z c10<|z2 Z Z c10<|ai Z c10 Z<|z7 ?_
             exact ⟨(),fg,⟨jb (by simp_all<;>grind),trivial⟩,aX,trivial⟩
            ·refine z6 Z Z c10<|z8 (zf wz Z jx (by decide) Z Z)<|z6 Z Z c10<|z8 (zj (c:=.int _ _) Z3 Z ⟨_,.head⟩ Z)<|z6 Z Z c10<|z8 (ym Z Z)<|ak Z c10 Z<|z7 ?_
             exact ⟨(),fg,⟨jb (by simp_all<;>grind),trivial⟩,aX,trivial⟩
           ·rintro _ _
            refine zn Z (fun cq=>?_) (fun cq=>?_)
            ·refine aj<|ae Z<|z7<|zd<|zg (x:=.bool _) Z ?_
             rw[q0 (fun h=>by have:=(h.2.2.2.2.2 _ (yx hk2)).2.1 _ (yx hp2);obtain ⟨h1,h2,_⟩:=this;simp at cq;omega)]
            ·have hop:0≤f.blocks[j].insts[p].op∧f.blocks[j].insts[p].op≤26:=by simp at cq;omega
             have hrow:dn[f.blocks[j].insts[p].op.toNat]?=some (bf f.blocks[j].insts[p].op):=by unfold bf;rw[if_pos hop.1,yt (show _<27 by omega)];rfl
             refine ze<|za<|yl (γ:=Nat) [1,3,9,10,12,18,107,108,109,197,198,199] (fun i=>[(19,.po i 0)]) (fun i=>[(i18,.cells 67 (aW f.blocks[j].insts[p])),(i,.cells 97 (jY (bf f.blocks[j].insts[p].op))),(i12,.cells 62 (aO f.blocks[j]))]) (fun i=>True) ?_ (fun _ _ h=>h) ?_
             ·refine zx (fun j=>Nat.beq j 6) (by kernel_rfl) Z (yd (.r (.rest _)))<|aR 1 Z (zf wz Z jx (by decide) Z Z)<|aR 2 Z (zj (c:=.int _ _) Z3 Z ⟨_,.head⟩ Z)<|bl.two (i:=0) (j:=5) Z Z (by kernel_rfl) ?_ ?_
              ·refine zc (e7) Z<|z7<|aR 3 Z (yc (j:=(f.blocks[j].insts[p].op.toNat)) underlying98 Zb Z Z (Int.toNat_of_nonneg hop.1).symm hrow)<|aR 4 Z (ya isAgg97 Zb Z Z)<|eZ 5 Z<|zo (cs:=[.str ⟨#[]⟩,.str ⟨#[]⟩,.str ⟨#[]⟩]) zeroValue97 Z Z<|fun i19=>z7<|bl.writes<|cB.one (i:=6) Z (by kernel_rfl) (by kernel_rfl)<|zm Zb Z Z Z Z Z Z .t1 Z<|z7<|cB.done (by kernel_rfl) ?_
               exact ⟨i19,fg,bg,aX,trivial⟩
              ·refine zo (cs:=[.str ⟨#[]⟩,.str ⟨#[]⟩,.str ⟨#[]⟩]) zeroValue97 Z Z<|fun i19=>z7<|eZ 0 Z<|zc (e7) Z<|z7<|aR 3 Z (yc (j:=(f.blocks[j].insts[p].op.toNat)) underlying98 Zb Z Z (Int.toNat_of_nonneg hop.1).symm hrow)<|aR 4 Z (ya isAgg97 Zb Z Z)<|bl.writes<|cB.one (i:=6) Z (by kernel_rfl) (by kernel_rfl)<|zm Zb Z Z Z Z Z Z .t1 Z<|z7<|cB.done (by kernel_rfl) ?_
               exact ⟨i19,fg,bg,aX,trivial⟩
             ·rintro i19 _
              refine za<|za<|yl (γ:=Unit) [1,3,9,10,12,18,107,108,109,197,198,199] (fun u=>[(258,.bool (fZ f f.blocks[j].insts[p]))]) (fun u=>[(i18,.cells 67 (aW f.blocks[j].insts[p])),(i19,.cells 97 (jY (bf f.blocks[j].insts[p].op))),(i12,.cells 62 (aO f.blocks[j]))]) (fun u=>True) ?_ (fun _ _ h=>h) ?_
              ·refine bA<|z8 (zf wz Z je (by decide) Z Z)<|z8 (zj (c:=.fro _ _) jj Z ⟨_,.head⟩ Z)<|ad j6 Z<|z8 (zf jy Z js (by decide) Z Z)<|z8 (zj (c:=.str _) jz Z ⟨_,.t1⟩ Z)<|z8 (Gv.lenT jr Z)<|aD Z Z<|ah Z<|zi (s:=223) Z (fun c11=>?_) (fun c11=>?_)
               ·refine z2 Z Z c11<|z2 Z Z c11<|z2 Z Z c11<|z2 Z Z c11<|z2 Z Z c11<|z2 Z Z c11<|z2 Z Z c11<|ai Z c11 Z<|ah Z<|z2 Z Z Z<|z2 Z Z Z<|z2 Z Z Z<|z2 Z Z Z<|zb Z Z<|zb Z Z<|zb Z Z<|zb Z Z<|zb Z Z<|z2 Z Z Z<|ai Z Z Z<|ah Z<|z2 Z Z Z<|z2 Z Z Z<|z2 Z Z Z<|z2 Z Z Z<|zb Z Z<|zb Z Z<|zb Z Z<|z2 Z Z Z<|z2 Z Z Z<|zb Z Z<|zb Z Z<|zb Z Z<|z2 Z Z Z<|ai Z Z Z<|z7 ?_
                exact ⟨(),fg,⟨jb (by simp_all[fZ,ez,bb]<;>grind),trivial⟩,aX,trivial⟩
               ·refine z6 Z Z c11<|z8 (zf jy Z js (by decide) Z Z)<|z6 Z Z c11<|z8 (zj (c:=.str _) jz Z ⟨_,.t1⟩ Z)<|z6 Z Z c11<|z8 (Gv.eqlT Z Z)<|z6 Z Z c11<|z8 (zf wz Z jc (by decide) Z Z)<|z6 Z Z c11<|z8 (zj (c:=.int _ _) jf Z ⟨_,.head⟩ Z)<|z6 Z Z c11<|aA Z Z<|z6 Z Z c11<|z8 (Gv.neqB underlying4 Z Z)<|ak Z c11 Z<|ah Z<|zi (s:=232) Z (fun c12=>?_) (fun c12=>?_)
                ·refine z2 Z Z c12<|z2 Z Z c12<|z2 Z Z c12<|z2 Z Z c12<|zb Z Z<|zb Z Z<|zb Z Z<|zb Z Z<|zb Z Z<|z2 Z Z c12<|ai Z c12 Z<|ah Z<|z2 Z Z Z<|z2 Z Z Z<|z2 Z Z Z<|z2 Z Z Z<|zb Z Z<|zb Z Z<|zb Z Z<|z2 Z Z Z<|z2 Z Z Z<|zb Z Z<|zb Z Z<|zb Z Z<|z2 Z Z Z<|ai Z Z Z<|z7 ?_
                 exact ⟨(),fg,⟨jb (by simp_all[fZ,ez,bb]<;>grind),trivial⟩,aX,trivial⟩
                ·refine z6 Z Z c12<|z8 (zf wz Z jc (by decide) Z Z)<|z6 Z Z c12<|z8 (zj (c:=.int _ _) jf Z ⟨_,.head⟩ Z)<|z6 Z Z c12<|aD Z Z<|z6 Z Z c12<|ah Z<|zi (s:=236) Z (fun c13=>?_) (fun c13=>?_)
                 ·refine z6 Z Z c13<|z8 (zf wz Z jc (by decide) Z Z)<|z6 Z Z c13<|z8 (zj (c:=.int _ _) jf Z ⟨_,.head⟩ Z)<|z6 Z Z c13<|ab Z<|z6 Z Z c13<|zc (di _ _) Z<|z6 Z Z c13<|aJ Z<|z6 Z Z c12<|ai Z c13 Z<|ak Z c12 Z<|ah Z<|zi (s:=244) Z (fun c14=>?_) (fun c14=>?_)
                  ·refine z2 Z Z c14<|z2 Z Z c14<|z2 Z Z c14<|z2 Z Z c14<|zb Z Z<|zb Z Z<|zb Z Z<|z2 Z Z c14<|z2 Z Z c14<|zb Z Z<|zb Z Z<|zb Z Z<|z2 Z Z c14<|ai Z c14 Z<|z7 ?_
                   exact ⟨(),fg,⟨jb (by simp_all[fZ,ez,bb]<;>grind),trivial⟩,aX,trivial⟩
                  ·refine z6 Z Z c14<|z8 (zf wz Z sizeOf2 (by decide) Z Z)<|z6 Z Z c14<|z8 (zj (c:=.int _ _) isAgg2 Z ⟨_,.head⟩ Z)<|z6 Z Z c14<|aD Z Z<|z6 Z Z c14<|ah Z<|zi (s:=248) Z (fun c15=>?_) (fun c15=>?_)
                   ·refine z6 Z Z c15<|z8 (zf jy Z js (by decide) Z Z)<|z6 Z Z c15<|z8 (zj (c:=.str _) jz Z ⟨_,.t1⟩ Z)<|z6 Z Z c15<|z8 (Gv.neqT Z Z)<|z6 Z Z c14<|ai Z c15 Z<|z6 Z Z c14<|ah Z<|zi (s:=253) Z (fun c16=>?_) (fun c16=>?_)
                    ·refine z6 Z Z c16<|z8 (zf jy Z js (by decide) Z Z)<|z6 Z Z c16<|z8 (zj (c:=.str _) jz Z ⟨_,.t1⟩ Z)<|z6 Z Z c16<|z8 (Gv.neqT Z Z)<|z6 Z Z c14<|ai Z c16 Z<|ak Z c14 Z<|z7 ?_
                     exact ⟨(),fg,⟨jb (by simp_all[fZ,ez,bb]<;>grind),trivial⟩,aX,trivial⟩
                    ·refine z2 Z Z c16<|z2 Z Z c16<|z2 Z Z c16<|z6 Z Z c14<|ak Z c16 Z<|ak Z c14 Z<|z7 ?_
                     exact ⟨(),fg,⟨jb (by simp_all[fZ,ez,bb]<;>grind),trivial⟩,aX,trivial⟩
                   ·refine z2 Z Z c15<|z2 Z Z c15<|z2 Z Z c15<|z6 Z Z c14<|ak Z c15 Z<|z6 Z Z c14<|ah Z<|z2 Z Z Z<|z2 Z Z Z<|z2 Z Z Z<|z6 Z Z c14<|ak Z Z Z<|ak Z c14 Z<|z7 ?_
                    exact ⟨(),fg,⟨jb (by simp_all[fZ,ez,bb]<;>grind),trivial⟩,aX,trivial⟩
                 ·refine z2 Z Z c13<|z2 Z Z c13<|z2 Z Z c13<|z2 Z Z c13<|z2 Z Z c13<|z6 Z Z c12<|ak Z c13 Z<|ak Z c12 Z<|ah Z<|z6 Z Z Z<|z8 (zf wz Z sizeOf2 (by decide) Z Z)<|z6 Z Z Z<|z8 (zj (c:=.int _ _) isAgg2 Z ⟨_,.head⟩ Z)<|z6 Z Z Z<|aD Z Z<|z6 Z Z Z<|ah Z<|zi (s:=248) Z (fun c17=>?_) (fun c17=>?_)
                  ·refine z6 Z Z c17<|z8 (zf jy Z js (by decide) Z Z)<|z6 Z Z c17<|z8 (zj (c:=.str _) jz Z ⟨_,.t1⟩ Z)<|z6 Z Z c17<|z8 (Gv.neqT Z Z)<|z6 Z Z Z<|ai Z c17 Z<|z6 Z Z Z<|ah Z<|zi (s:=253) Z (fun c18=>?_) (fun c18=>?_)
                   ·refine z6 Z Z c18<|z8 (zf jy Z js (by decide) Z Z)<|z6 Z Z c18<|z8 (zj (c:=.str _) jz Z ⟨_,.t1⟩ Z)<|z6 Z Z c18<|z8 (Gv.neqT Z Z)<|z6 Z Z Z<|ai Z c18 Z<|ak Z Z Z<|z7 ?_
                    exact ⟨(),fg,⟨jb (by simp_all[fZ,ez,bb]<;>grind),trivial⟩,aX,trivial⟩
                   ·refine z2 Z Z c18<|z2 Z Z c18<|z2 Z Z c18<|z6 Z Z Z<|ak Z c18 Z<|ak Z Z Z<|z7 ?_
                    exact ⟨(),fg,⟨jb (by simp_all[fZ,ez,bb]<;>grind),trivial⟩,aX,trivial⟩
                  ·refine z2 Z Z c17<|z2 Z Z c17<|z2 Z Z c17<|z6 Z Z Z<|ak Z c17 Z<|z6 Z Z Z<|ah Z<|z2 Z Z Z<|z2 Z Z Z<|z2 Z Z Z<|z6 Z Z Z<|ak Z Z Z<|ak Z Z Z<|z7 ?_
                   exact ⟨(),fg,⟨jb (by simp_all[fZ,ez,bb]<;>grind),trivial⟩,aX,trivial⟩
              ·rintro _ _
               refine zn Z (fun cw=>?_) (fun cw=>?_)
               ·refine aj<|ae Z<|z7<|zd<|zg (x:=.bool _) Z ?_
                rw[q0 (fun h=>by have:=(h.2.2.2.2.2 _ (yx hk2)).2.1 _ (yx hp2);rw[this.2.2.1] at cw;cases cw)]
               ·refine ze<|aj<|z8 (zf wz Z je (by decide) Z Z)<|z8 (zj (c:=.fro _ _) jj Z ⟨_,.head⟩ Z)<|ad j6 Z<|ab Z<|z7<|zh<|zt (γ:=Nat) [1,3,9,10,12,107,108,109,197,198,199,260,261] (fun m=>[(262,.int .i64 m)]) (fun m=>[(i18,.cells 67 (aW f.blocks[j].insts[p])),(i12,.cells 62 (aO f.blocks[j]))]) (fun m=>m≤f.blocks[j].insts[p].args.length∧(f.blocks[j].insts[p].args.take m).all (bb f)=true) (fun m=>f.blocks[j].insts[p].args.length - m) 0 bg ⟨_,(.keep (.drop (.refl _))),Z⟩ (⟨yw _,Z⟩) ?_
                rintro m ⟨hm,ha1⟩
                refine aj<|aB Z Z<|z7<|za<|zq Z (fun cm=>?_) (fun cm=>?_)
                ·have hm1:m<f.blocks[j].insts[p].args.length:=by omega
                 refine ze<|za<|zh<|aj<|z8 (yc j6 jc Z Z Z (yt (by omega)))<|aP jf Z<|aw Z<|z7<|aj<|ab Z<|ab Z<|zc (di _ _) Z<|aJ Z<|z7<|zn Z (fun ca=>?_) (fun ca=>?_)
                 ·have ca:bb f f.blocks[j].insts[p].args[m]=false:=by simp[bb] at ca ⊢;omega
                  refine aj<|ae Z<|z7<|zd<|zg (x:=.bool _) Z ?_
                  rw[q0 (fun h=>by have:=(h.2.2.2.2.2 _ (yx hk2)).2.1 _ (yx hp2);have h6:=List.all_eq_true.1 this.2.2.2 _ (yx hm1);rw[ca] at h6;cases h6)]
                 ·have ca:bb f f.blocks[j].insts[p].args[m]=true:=by simp[bb] at ca ⊢;omega
                  refine ze<|bA<|aI Z Z<|ab Z<|z7 ?_
                  exact ⟨m+1,⟨rfl,rfl,rfl,rfl,rfl,rfl,rfl,rfl,rfl,rfl,rfl,rfl,rfl,trivial⟩,bg,aX,⟨hm1,bS hm1 ha1 ca⟩,by omega⟩
                ·rw[eR (by omega)] at ha1
                 refine zu<|bA<|aI Z Z<|ab Z<|z7 ?_
                 exact ⟨p+1,⟨rfl,rfl,rfl,rfl,rfl,rfl,rfl,rfl,rfl,rfl,trivial⟩,bg,⟨_,(.drop (.refl _)),rfl⟩,⟨hp2,cr hp2 hins ⟨hop.1,hop.2,cw,ha1⟩⟩,by omega⟩
          ·rw[eR (by omega)] at hins
           refine zu<|aj<|z8 (zf wy Z Z6 (by decide) Z Z)<|z8 (Gv.loadAC (l:=[_,_,_,_]) isAgg60 Z6 Z ⟨_,.head⟩ Z Z)<|zo (cs:=[.int .i64 0,.int .i64 0,.int .i64 0,.int .i64 0]) zeroValue60 Z Z<|fun i22=>zm Z6 Z Z Z Z Z Z .head Z<|z7<|aj<|ae Z<|z7<|za<|aj<|z8 (zf j7 Z Zf (by decide) Z Z)<|z8 (zj (c:=.int _ _) Zg Z ⟨_,.head⟩ Z)<|z7<|yl (γ:=Unit) [1,3,9,10,107,108,109] (fun u=>[(23,.bool (bj f f.blocks[j].term))]) (fun u=>[]) (fun u=>True) ?_ (fun _ _ h=>h) ?_
           ·refine zh<|aj<|aA Z Z<|ae Z<|z7<|zn Z (fun c19=>?_) (fun c19=>?_)
            ·refine bA<|z8 (zf j7 Z jk (by decide) Z Z)<|z8 (Gv.idxAO (j:=0) jm jc Z Z Z (by decide) Z)<|z8 (zj (c:=.int _ _) jf Z ⟨_,.head⟩ Z)<|ab Z<|zc (di _ _) Z<|ah Z<|zi (s:=283) Z (fun c20=>?_) (fun c20=>?_)
             ·refine z6 Z Z c20<|z8 (zf j7 Z jk (by decide) Z Z)<|z6 Z Z c20<|z8 (Gv.idxAO (j:=1) jm jc Z Z Z (by decide) Z)<|z6 Z Z c20<|z8 (zj (c:=.int _ _) jf Z ⟨_,.head⟩ Z)<|z6 Z Z c20<|aA Z Z<|ai Z c20 Z<|ah Z<|zi (s:=289) Z (fun c21=>?_) (fun c21=>?_)
              ·refine z6 Z Z c21<|z8 (zf j7 Z jc (by decide) Z Z)<|z6 Z Z c21<|z8 (zj (c:=.int _ _) jf Z ⟨_,.head⟩ Z)<|z6 Z Z c21<|aA Z Z<|ai Z c21 Z<|ae Z<|z7 ?_
               exact ⟨(),jT,⟨jb (by simp_all[bj,bb,da]<;>grind),trivial⟩,⟨_,(.drop (.drop (.refl _))),rfl⟩,trivial⟩
              ·refine z2 Z Z c21<|z2 Z Z c21<|z2 Z Z c21<|ak Z c21 Z<|ae Z<|z7 ?_
               exact ⟨(),jT,⟨jb (by simp_all[bj,bb,da]<;>grind),trivial⟩,⟨_,(.drop (.drop (.refl _))),rfl⟩,trivial⟩
             ·refine z2 Z Z c20<|z2 Z Z c20<|z2 Z Z c20<|z2 Z Z c20<|ak Z c20 Z<|ah Z<|z2 Z Z Z<|z2 Z Z Z<|z2 Z Z Z<|ak Z Z Z<|ae Z<|z7 ?_
              exact ⟨(),jT,⟨jb (by simp_all[bj,bb,da]<;>grind),trivial⟩,⟨_,(.drop (.drop (.refl _))),rfl⟩,trivial⟩
            ·refine aj<|aA Z Z<|ae Z<|z7<|zn Z (fun c22=>?_) (fun c22=>?_)
             ·refine bA<|z8 (zf j7 Z jc (by decide) Z Z)<|z8 (zj (c:=.int _ _) jf Z ⟨_,.head⟩ Z)<|ab Z<|zc (di _ _) Z<|ah Z<|zi (s:=300) Z (fun c23=>?_) (fun c23=>?_)
              ·refine z6 Z Z c23<|z8 (zf j7 Z jk (by decide) Z Z)<|z6 Z Z c23<|z8 (Gv.idxAO (j:=0) jm jc Z Z Z (by decide) Z)<|z6 Z Z c23<|z8 (zj (c:=.int _ _) jf Z ⟨_,.head⟩ Z)<|z6 Z Z c23<|ab Z<|z6 Z Z c23<|zc (di _ _) Z<|ai Z c23 Z<|ah Z<|zi (s:=307) Z (fun c24=>?_) (fun c24=>?_)
               ·refine z6 Z Z c24<|z8 (zf j7 Z jk (by decide) Z Z)<|z6 Z Z c24<|z8 (Gv.idxAO (j:=1) jm jc Z Z Z (by decide) Z)<|z6 Z Z c24<|z8 (zj (c:=.int _ _) jf Z ⟨_,.head⟩ Z)<|z6 Z Z c24<|ab Z<|z6 Z Z c24<|zc (di _ _) Z<|ai Z c24 Z<|ae Z<|z7 ?_
                exact ⟨(),jT,⟨jb (by simp_all[bj,bb,da]<;>grind),trivial⟩,⟨_,(.drop (.drop (.refl _))),rfl⟩,trivial⟩
               ·refine z2 Z Z c24<|z2 Z Z c24<|z2 Z Z c24<|z2 Z Z c24<|z2 Z Z c24<|ak Z c24 Z<|ae Z<|z7 ?_
                exact ⟨(),jT,⟨jb (by simp_all[bj,bb,da]<;>grind),trivial⟩,⟨_,(.drop (.drop (.refl _))),rfl⟩,trivial⟩
              ·refine z2 Z Z c23<|z2 Z Z c23<|z2 Z Z c23<|z2 Z Z c23<|z2 Z Z c23<|ak Z c23 Z<|ah Z<|z2 Z Z Z<|z2 Z Z Z<|z2 Z Z Z<|z2 Z Z Z<|z2 Z Z Z<|ak Z Z Z<|ae Z<|z7 ?_
               exact ⟨(),jT,⟨jb (by simp_all[bj,bb,da]<;>grind),trivial⟩,⟨_,(.drop (.drop (.refl _))),rfl⟩,trivial⟩
             ·refine aj<|aA Z Z<|ae Z<|z7<|zn Z (fun c25=>?_) (fun c25=>?_)
              ·refine bA<|z8 (zf j7 Z jc (by decide) Z Z)<|z8 (zj (c:=.int _ _) jf Z ⟨_,.head⟩ Z)<|ab Z<|zc (di _ _) Z<|ah Z<|zi (s:=320) Z (fun c26=>?_) (fun c26=>?_)
               ·refine z6 Z Z c26<|z8 (zf j7 Z jk (by decide) Z Z)<|z6 Z Z c26<|z8 (Gv.loadAC (l:=[_,_]) isAgg35 jk Z ⟨_,.head⟩ Z Z)<|z6 Z Z c26<|z8 (Gv.buildA (cps:=[]) (rs:=[.int .i64 0,.int .i64 0]) sg Z Z Z)<|z6 Z Z c26<|z8 (Gv.eqlP (xs:=[.int _ _,.int _ _]) (ys:=[.int _ _,.int _ _]) (by kernel_rfl) Z Z (fun w=>eP _ _ _ _ w))<|ai Z c26 Z<|ae Z<|z7 ?_
                exact ⟨(),jT,⟨jb (by simp_all[bj,bb,da]<;>grind),trivial⟩,⟨_,(.drop (.drop (.refl _))),rfl⟩,trivial⟩
               ·refine z2 Z Z c26<|z2 Z Z c26<|z2 Z Z c26<|z2 Z Z c26<|ak Z c26 Z<|ae Z<|z7 ?_
                exact ⟨(),jT,⟨jb (by simp_all[bj,bb,da]<;>grind),trivial⟩,⟨_,(.drop (.drop (.refl _))),rfl⟩,trivial⟩
              ·refine ze ?_
               exact ⟨(),jT,⟨jb (by simp_all[bj,bb,da]<;>grind),trivial⟩,⟨_,(.drop (.drop (.refl _))),rfl⟩,trivial⟩
           ·rintro _ _
            refine aj<|ah Z<|aJ Z<|z7<|zn Z (fun ct=>?_) (fun ct=>?_)
            ·refine aj<|ae Z<|z7<|zd<|zg (x:=.bool _) Z ?_
             rw[q0 (fun h=>by have:=(h.2.2.2.2.2 _ (yx hk2)).2.2;rw[this] at ct;cases ct)]
            ·have ct:bj f f.blocks[j].term=true:=by simpa using ct
             refine ze<|bA<|aI Z Z<|ab Z<|z7 ?_
             exact ⟨j+1,⟨rfl,rfl,rfl,rfl,rfl,trivial⟩,⟨rfl,(congrArg (AV.int .i64) (by rw[hs1];omega)),trivial⟩,aX,⟨hk2,fun i h hi=>by rcases Nat.lt_or_ge i j with h3|h3;exact hnam i h h3;obtain rfl:i=j:=(by omega);exact ⟨by simpa using cv,hno⟩,by omega,cr hk2 hblk ⟨hphi,hins,ct⟩⟩,by omega⟩
     ·have hkn:k=f.blocks.length:=by omega
      subst hkn
      rw[yy] at hsum hblk
      refine zu<|aj<|ae Z<|z7<|zd<|zg (x:=.bool _) Z ?_
      rw[decide_eq_true (show cI f from ⟨c1,hpars,hvars,fun i h=>hnam i h h,hsum,hblk⟩)]
end
section
open Go.Proofs.Tryz
theorem cF.perm {O O':OL} {i:Nat} {o:bi} (h:cF O i o O'):O.Perm ((i,o)::O'):=by
 induction h with
 |head=>exact .refl _
 |tail _ ih=>exact (ih.cons _).trans (.swap _ _ _)
section
variable {E:World} {P:Program} {f:FuncId} {as0:List AV} {O:OL}
theorem bx.exact {γ:Type} {x:γ→AV} {M:γ→OL} {p:γ→Prop} (h:bx P E f as0 O (fun y O'=>∃g,y=x g∧Left O' (M g)∧p g)):bx P E f as0 O (fun y O'=>∃g,y=x g∧O'=M g∧p g):=
 h.know fun I F w v y O' ⟨g,e,hl,hp⟩ h1 h2=>⟨I,y,M g,.refl _,h1,hl.sla h2,g,e,rfl,hp⟩
theorem bx.frozen {k m:Nat} {T:TypeId} {rows:List (List AV)} (h:bx P E f as0 [] (fun y O'=>∃i:Nat,y=.own i m∧Left O' [(i,.grow k T rows.flatten)]∧True)) (hk:∀r∈rows,r.length=k) (hk0:0<k) (hm:rows.length=m):aQ P E f as0 (.fro k rows):=
 h.know fun I F w v y O' ⟨i,e,hl,_⟩ h1 h2=>by
  subst e
  obtain ⟨J,h3,h4,h5⟩:=Go.Proofs.YtbconpmnckokoaaGreatDoor.know .head hk hk0 hm (hl.sla h2)
  exact ⟨J,_,[],h3,h5 _ h1,h4,rfl⟩
end
set_option linter.defProp false
def yh:=@cF.perm
end
end Go.Proofs.YtbconpmnckokoaaGreatDoor
