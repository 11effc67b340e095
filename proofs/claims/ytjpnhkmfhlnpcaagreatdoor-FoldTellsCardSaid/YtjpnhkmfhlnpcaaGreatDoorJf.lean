/- What has a text, and what is the same, by the document's own functions. No conditions but bounds. -/
import Derived.Test.YtjpnhkmfhlnpcaaGreatDoorJe
set_option linter.unusedVariables false
set_option linter.unusedSimpArgs false
set_option linter.unusedSectionVars false
namespace Go.Proofs.YtjpnhkmfhlnpcaaGreatDoor
open Go.Proofs.Tryz
open Go.Proofs Go.Lib Go.Shelf Go.RowKit
set_option maxRecDepth 20000
variable {E:World}
def nQ (f:ae) (p:bM):Prop:=bf f p.dst=true∧p.args.length=p.from_.length∧1≤p.args.length∧p.args.all (bf f)=true∧p.from_.all (cW f)=true
def fZ (x:bB):Bool:=decide ((bv x.op).1=⟨#[99,111,110,115,116]⟩)||decide ((bv x.op).1=⟨#[112,105]⟩)
def iw (f:ae) (x:bB):Bool:=!decide ((x.args.length:Int)=((bv x.op).2.1.size:Int))||(!(decide ((bv x.op).2.2=⟨#[]⟩) == decide (x.dst=-1))||((!decide (x.dst=-1)&&!bf f x.dst)||(!decide (x.num=0)&&!fZ x)))
def lP (f:ae) (x:bB):Prop:=0≤x.op∧x.op≤26∧iw f x=false∧x.args.all (bf f)=true
def qx (f:ae) (b:az):Prop:=(∀p∈b.phis,nQ f p)∧(∀x∈b.insts,lP f x)∧bb f b.term=true
def du (l:List az):Nat:=(l.map fun b=>b.phis.length+b.insts.length).sum
def iY (f:ae):Bool:=decide ((512:Int)<f.vars.length)||(decide ((8:Int)<f.params.length)||(decide ((f.vars.length:Int)<f.params.length)||(decide ((f.blocks.length:Int)<1)||decide ((64:Int)<f.blocks.length))))
def vW (f:ae) (i:Nat) (v:iU):Prop:=iX v.name=true∧0≤v.ty∧v.ty≤2∧∀s∈(f.vars.take i).map (·.name),s≠v.name
def vX (f:ae) (i:Nat) (b:az):Prop:=iX b.name=true∧∀s∈(f.blocks.take i).map (·.name),s≠b.name
def bw (f:ae):Prop:=iY f=false∧(∀i (h:i<f.params.length),f.params[i]=(i:Int))∧(∀i (h:i<f.vars.length),vW f i f.vars[i])∧(∀i (h:i<f.blocks.length),vX f i f.blocks[i])∧du f.blocks≤1024∧∀b∈f.blocks,qx f b
instance (f:ae) (p:bM):Decidable (nQ f p):=by unfold nQ;infer_instance
instance (f:ae) (x:bB):Decidable (lP f x):=by unfold lP;infer_instance
instance (f:ae) (b:az):Decidable (qx f b):=by unfold qx;infer_instance
instance (f:ae) (i:Nat) (v:iU):Decidable (vW f i v):=by unfold vW;infer_instance
instance (f:ae) (i:Nat) (b:az):Decidable (vX f i b):=by unfold vX;infer_instance
instance (f:ae):Decidable (bw f):=by unfold bw;infer_instance
theorem qy (l:List az) (k:Nat):du (l.take k)≤du l:=by
 have:du l=du (l.take k)+du (l.drop k):=by
  unfold du;rw[←List.sum_append,←List.map_append,List.take_append_drop]
 omega
theorem lQ (l:List az) (k:Nat) (h:k<l.length):du (l.take (k+1))=du (l.take k)+(l[k].phis.length+l[k].insts.length):=by
 unfold du;rw[q3 h,List.map_append,List.sum_append];simp only[List.map_cons,List.map_nil,List.sum_cons,List.sum_nil,Nat.add_zero]
theorem oY {α:Type} {g:α→ByteArray} {l:List α} {k:Nat} {s:ByteArray} (h:k<l.length) (h1:∀x∈(l.take k).map g,x≠s) (h2:¬g l[k]=s):∀x∈(l.take (k+1)).map g,x≠s:=by
 rw[q3 h,List.map_append]
 intro x hx
 rcases List.mem_append.1 hx with hx|hx
 ·exact h1 x hx
 ·simp only[List.map_cons,List.map_nil,List.mem_singleton] at hx;rw[hx];exact h2
theorem rT {α:Type} {g:α→ByteArray} {l:List α} {k i:Nat} {s:ByteArray} (h:k<l.length) (hk:k<i) (h1:∀x∈(l.take i).map g,x≠s):¬g l[k]=s:=by
 refine h1 _ (List.mem_map.2 ⟨l[k],?_,Z⟩)
 refine List.mem_iff_getElem?.2 ⟨k,?_⟩
 rw[List.getElem?_take,if_pos hk,q2 h]
theorem bX {α:Type} {p:α→Bool} {l:List α} {k:Nat} (h:k<l.length) (h1:(l.take k).all p=true) (h2:p l[k]=true):(l.take (k+1)).all p=true:=by
 rw[q3 h,List.all_append,h1];simp[h2]
theorem dM {α:Type} {p:α→Bool} {l:List α} {k:Nat} (h:k<l.length) (h2:p l[k]=false):¬l.all p=true:=fun h3=>by
 have:=List.all_eq_true.1 h3 _ (q6 h);rw[h2] at this;cases this
theorem gv {α:Type} {l:List α} {k:Nat} (h:l.length≤k):l.take k=l:=List.take_of_length_le h
theorem da {α:Type} {p:α→Prop} {l:List α} {k:Nat} (h:k<l.length) (h1:∀x∈l.take k,p x) (h2:p l[k]):∀x∈l.take (k+1),p x:=by
 rw[q3 h]
 intro x hx
 rcases List.mem_append.1 hx with hx|hx
 ·exact h1 x hx
 ·rw[List.mem_singleton.1 hx];exact h2
def iZ (f:ae):Prop:=(∀v∈f.vars,v.name.size≤140737488355328)∧∀b∈f.blocks,b.name.size≤140737488355328
set_option maxHeartbeats 8000000 in
theorem lR (f:ae) (hf:jU f) (hn:iZ f) (hL:ah E):aT prog E 46 [.agg (bC f)] (.bool (decide (bw f))):=by
 obtain ⟨hf1,hf2,hf3,hf4⟩:=hf
 have hl1:=hf1.lt
 have hl2:=hf2.lt
 have hl3:=hf3.lt
 refine zo func46 Z (by decide) Z<|ai<|y9 (cs:=_) Z Z Z<|ad Z<|z7<|ai<|ap j6 Z Za Z Z<|aP Zi Z<|ac jk Z<|aw Z<|z7<|zb<|zb<|yn (γ:=Unit) [1,3] (fun u=>[(53,.bool (iY f))]) (fun u=>[]) (fun u=>True) ?_ (fun _ _ h=>h) ?_
 ·refine bg<|aa Z<|za (yy Z Z)<|aj Z<|zk (s:=29) Z (fun c1=>?_) (fun c1=>?_)
  ·refine z6 Z Z c1<|z6 Z Z c1<|z6 Z Z c1<|z6 Z Z c1<|ak Z c1 Z<|aj Z<|z6 Z Z Z<|z6 Z Z Z<|z6 Z Z Z<|z6 Z Z Z<|z6 Z Z Z<|ak Z Z Z<|aj Z<|z6 Z Z Z<|z6 Z Z Z<|z6 Z Z Z<|z6 Z Z Z<|ak Z Z Z<|aj Z<|z6 Z Z Z<|z6 Z Z Z<|z6 Z Z Z<|z6 Z Z Z<|ak Z Z Z<|z7 ?_
   exact ⟨(),fF,⟨jb (by simp_all[iY]<;>grind),trivial⟩,aU,trivial⟩
  ·refine z8 Z Z c1<|ap j6 Z je Z Z<|z8 Z Z c1<|aP jm Z<|z8 Z Z c1<|ac j4 Z<|z8 Z Z c1<|za (yy Z Z)<|al Z c1 Z<|aj Z<|zk (s:=35) Z (fun c2=>?_) (fun c2=>?_)
   ·refine z6 Z Z c2<|z6 Z Z c2<|z6 Z Z c2<|z6 Z Z c2<|z6 Z Z c2<|ak Z c2 Z<|aj Z<|z6 Z Z Z<|z6 Z Z Z<|z6 Z Z Z<|z6 Z Z Z<|ak Z Z Z<|aj Z<|z6 Z Z Z<|z6 Z Z Z<|z6 Z Z Z<|z6 Z Z Z<|ak Z Z Z<|z7 ?_
    exact ⟨(),fF,⟨jb (by simp_all[iY]<;>grind),trivial⟩,aU,trivial⟩
   ·refine z8 Z Z c2<|ap j6 Z je Z Z<|z8 Z Z c2<|aP jm Z<|z8 Z Z c2<|ac j4 Z<|z8 Z Z c2<|aa Z<|z8 Z Z c2<|za (yy Z Z)<|al Z c2 Z<|aj Z<|zk (s:=42) Z (fun c3=>?_) (fun c3=>?_)
    ·refine z6 Z Z c3<|z6 Z Z c3<|z6 Z Z c3<|z6 Z Z c3<|ak Z c3 Z<|aj Z<|z6 Z Z Z<|z6 Z Z Z<|z6 Z Z Z<|z6 Z Z Z<|ak Z Z Z<|z7 ?_
     exact ⟨(),fF,⟨jb (by simp_all[iY]<;>grind),trivial⟩,aU,trivial⟩
    ·refine z8 Z Z c3<|ap j6 Z ji Z Z<|z8 Z Z c3<|aP js Z<|z8 Z Z c3<|ac ja Z<|z8 Z Z c3<|ay Z Z<|al Z c3 Z<|aj Z<|zk (s:=48) Z (fun c4=>?_) (fun c4=>?_)
     ·refine z6 Z Z c4<|z6 Z Z c4<|z6 Z Z c4<|z6 Z Z c4<|ak Z c4 Z<|z7 ?_
      exact ⟨(),fF,⟨jb (by simp_all[iY]<;>grind),trivial⟩,aU,trivial⟩
     ·refine z8 Z Z c4<|ap j6 Z ji Z Z<|z8 Z Z c4<|aP js Z<|z8 Z Z c4<|ac ja Z<|z8 Z Z c4<|za (yy Z Z)<|al Z c4 Z<|z7 ?_
      exact ⟨(),fF,⟨jb (by simp_all[iY]<;>grind),trivial⟩,aU,trivial⟩
 ·rintro _ _
  refine zu Z (fun c1=>?_) (fun c1=>?_)
  ·refine ai<|ad Z<|z7<|zg<|zi (x:=.bool _) Z ?_
   rw[qf (fun h=>by rw[h.1] at c1;cases c1)]
  ·have hsz:f.vars.length≤512∧f.params.length≤8∧f.params.length≤f.vars.length∧1≤f.blocks.length∧f.blocks.length≤64:=by unfold iY at c1;simp at c1;omega
   refine zf<|zb<|ai<|ap j6 Z je Z Z<|aP jm Z<|ac j4 Z<|aa Z<|z7<|zh<|y7 (γ:=Nat) [1,3,55,56] (fun k=>[(57,.int .i64 k)]) (fun k=>[]) (fun k=>k≤f.params.length∧∀i (h:i<f.params.length),i<k→f.params[i]=(i:Int)) (fun k=>f.params.length - k) 0 aV aU (⟨q5 _,fun i h hk=>by omega⟩) ?_
   rintro k ⟨hk,hpar⟩
   refine ai<|ay Z Z<|z7<|zb<|zt Z (fun ck=>?_) (fun ck=>?_)
   ·have hk2:k<f.params.length:=by omega
    refine zf<|zb<|zh<|ai<|aa Z<|za (yk j4 j9 Z Z Z (q2 (by omega)))<|aF jf Z<|aw Z<|aw Z<|z7<|ai<|aa Z<|aa Z<|aG Z Z<|z7<|zu Z (fun cp=>?_) (fun cp=>?_)
    ·refine ai<|ad Z<|z7<|zg<|zi (x:=.bool _) Z ?_
     rw[qf (fun h=>by have:=h.2.1 k hk2;simp[this] at cp)]
    ·refine zf<|bg<|aB Z Z<|aa Z<|z7 ?_
     exact ⟨k+1,fv,aV,aU,⟨hk2,fun i h hi=>by rcases Nat.lt_or_ge i k with h3|h3;exact hpar i h h3;obtain rfl:i=k:=(by omega);simpa using cp⟩,by omega⟩
   ·have hpars:∀i (h:i<f.params.length),f.params[i]=(i:Int):=fun i h=>hpar i h (by omega)
    refine zy<|zb<|ai<|ap j6 Z Za Z Z<|aP Zi Z<|ac jk Z<|aa Z<|z7<|zh<|y7 (γ:=Nat) [1,3,67,68] (fun k=>[(69,.int .i64 k)]) (fun k=>[]) (fun k=>k≤f.vars.length∧∀i (h:i<f.vars.length),i<k→vW f i f.vars[i]) (fun k=>f.vars.length - k) 0 aV aU (⟨q5 _,fun i h hk=>by omega⟩) ?_
    rintro k ⟨hk,hvar⟩
    refine ai<|ay Z Z<|z7<|zb<|zt Z (fun ck=>?_) (fun ck=>?_)
    ·have hk2:k<f.vars.length:=by omega
     have hnk:f.vars[k].name.size≤140737488355328:=hn.1 _ (q6 hk2)
     refine zf<|zb<|zh<|ai<|aa Z<|za (yk jk Zc Z Z Z (q2 (by omega)))<|ab isAgg66 Zc Z Z<|zp (cs:=[.str ⟨#[]⟩,.int .i64 0]) zeroValue66 Z Z<|fun i7=>aw Z<|zm Zc Z Z Z Z Z Z .head Z<|z7<|zb<|zb<|yn (γ:=Unit) [1,3,6,7,67,68,69] (fun u=>[(87,.bool (!iX f.vars[k].name||(decide (f.vars[k].ty<0)||decide (2<f.vars[k].ty))))]) (fun u=>[(i7,.cells 66 (ba f.vars[k]))]) (fun u=>True) ?_ (fun _ _ h=>h) ?_
     ·refine bg<|za (zd Z3 Z jy (by decide) Z Z)<|za (zj (c:=.str _) Z1 Z ⟨_,.head⟩ Z)<|ze (nj _ (by assumption) hL) Z<|aH Z<|aj Z<|zk (s:=78) Z (fun c5=>?_) (fun c5=>?_)
      ·refine z6 Z Z c5<|z6 Z Z c5<|z6 Z Z c5<|ak Z c5 Z<|aj Z<|z6 Z Z Z<|z6 Z Z Z<|z6 Z Z Z<|ak Z Z Z<|z7 ?_
       exact ⟨(),gY,⟨jb (by simp_all<;>grind),trivial⟩,aU,trivial⟩
      ·refine z8 Z Z c5<|za (zd Z3 Z sizeOf64 (by decide) Z Z)<|z8 Z Z c5<|za (zj (c:=.int _ _) isAgg64 Z ⟨_,.head⟩ Z)<|z8 Z Z c5<|ay Z Z<|al Z c5 Z<|aj Z<|zk (s:=83) Z (fun c6=>?_) (fun c6=>?_)
       ·refine z6 Z Z c6<|z6 Z Z c6<|z6 Z Z c6<|ak Z c6 Z<|z7 ?_
        exact ⟨(),gY,⟨jb (by simp_all<;>grind),trivial⟩,aU,trivial⟩
       ·refine z8 Z Z c6<|za (zd Z3 Z sizeOf64 (by decide) Z Z)<|z8 Z Z c6<|za (zj (c:=.int _ _) isAgg64 Z ⟨_,.head⟩ Z)<|z8 Z Z c6<|za (yy Z Z)<|al Z c6 Z<|z7 ?_
        exact ⟨(),gY,⟨jb (by simp_all<;>grind),trivial⟩,aU,trivial⟩
     ·rintro _ _
      refine zu Z (fun cv=>?_) (fun cv=>?_)
      ·refine ai<|ad Z<|z7<|zg<|zi (x:=.bool _) Z ?_
       rw[qf (fun h=>by have:=h.2.2.1 k hk2;obtain ⟨h1,h2,h3,_⟩:=this;simp[h1] at cv;omega)]
      ·have hv3:iX f.vars[k].name=true∧0≤f.vars[k].ty∧f.vars[k].ty≤2:=by simp at cv;omega
       refine zf<|ai<|aa Z<|aa Z<|z7<|zh<|y7 (γ:=Nat) [1,3,7,67,68,69,88] (fun j=>[(89,.int .i64 j)]) (fun j=>[(i7,.cells 66 (ba f.vars[k]))]) (fun j=>j≤k∧∀s∈(f.vars.take j).map (·.name),s≠f.vars[k].name) (fun j=>k - j) 0 aV aU (⟨q5 _,by simp⟩) ?_
       rintro j ⟨hj,hno⟩
       refine ai<|ay Z Z<|z7<|zb<|zt Z (fun cj=>?_) (fun cj=>?_)
       ·have hj1:j<f.vars.length:=by omega
        refine zf<|zb<|zh<|ai<|aa Z<|aw Z<|z7<|zb<|ya (fun j=>false) (by kernel_rfl) Z (yh (.r (.rest _)))<|aN 0 Z (f9 j6 Z Za Z Z)<|aN 1 Z (lx Zi Z)<|aN 2 Z (kq Z)<|aN 3 Z (yk jk Zc Z Z Z (q2 (by omega)))<|aN 4 Z (f9 Z3 Z jy Z Z)<|aN 5 Z (Gv.load1F (c:=.str _) Z1 Z)<|aN 6 Z (zd Z3 Z jy (by decide) Z Z)<|aN 7 Z (zj (c:=.str _) Z1 Z ⟨_,.head⟩ Z)<|aN 8 Z (Gv.eqlT Z Z)<|kV<|zt Z (fun ce=>?_) (fun ce=>?_)
        ·refine ai<|ad Z<|z7<|zg<|zi (x:=.bool _) Z ?_
         rw[qf (fun h=>by exact rT (g:=iU.name) hj1 (by omega) (h.2.2.1 k hk2).2.2.2 ce)]
        ·refine zf<|bg<|aB Z Z<|aa Z<|z7 ?_
         exact ⟨j+1,gY,aV,aU,⟨by omega,oY hj1 hno ce⟩,by omega⟩
       ·obtain rfl:j=k:=by omega
        refine zy<|bg<|aB Z Z<|aa Z<|z7 ?_
        exact ⟨j+1,fv,aV,⟨_,(.drop (.refl _)),rfl⟩,⟨hk2,fun i h hi=>by rcases Nat.lt_or_ge i j with h3|h3;exact hvar i h h3;obtain rfl:i=j:=(by omega);exact ⟨hv3.1,hv3.2.1,hv3.2.2,hno⟩⟩,by omega⟩
    ·have hvars:∀i (h:i<f.vars.length),vW f i f.vars[i]:=fun i h=>hvar i h (by omega)
     refine zy<|ai<|ap j6 Z ji Z Z<|aP js Z<|ac ja Z<|aw Z<|z7<|ai<|aw Z<|z7<|zb<|ai<|ap j6 Z ji Z Z<|aP js Z<|ac ja Z<|aa Z<|z7<|zh<|y7 (γ:=Nat) [1,3,9,107,108] (fun g=>[(109,.int .i64 g),(10,.int .i64 (du (f.blocks.take g)))]) (fun g=>[]) (fun g=>g≤f.blocks.length∧(∀i (h:i<f.blocks.length),i<g→vX f i f.blocks[i])∧du (f.blocks.take g)≤1024∧∀b∈f.blocks.take g,qx f b) (fun g=>f.blocks.length - g) 0 fF aU (⟨q5 _,fun i h hk=>by omega,by simp[du],by simp⟩) ?_
     rintro k ⟨hk,hnam,hsum,hblk⟩
     refine ai<|ay Z Z<|z7<|zb<|zt Z (fun ck=>?_) (fun ck=>?_)
     ·have hk2:k<f.blocks.length:=by omega
      have hnk:f.blocks[k].name.size≤140737488355328:=hn.2 _ (q6 hk2)
      obtain ⟨hb1,hb2,hb3,hb4⟩:=hf4 _ (q6 hk2)
      have hl4:=hb1.lt
      have hl5:=hb2.lt
      refine zf<|zb<|zh<|ai<|aa Z<|za (yk ja jj Z Z Z (q2 (by omega)))<|ab Z7 jj Z Z<|zp (cs:=[.str ⟨#[]⟩,.raw (.slice none 0 0),.raw (.slice none 0 0),.int .i64 0,.int .i64 0,.int .i64 0,.int .i64 0]) ju Z Z<|fun i12=>aw Z<|zm jj Z Z Z Z Z Z .head Z<|z7<|zb<|ai<|za (zd j5 Z jy (by decide) Z Z)<|za (zj (c:=.str _) Z1 Z ⟨_,.head⟩ Z)<|ze (nj _ (by assumption) hL) Z<|aH Z<|z7<|zu Z (fun cv=>?_) (fun cv=>?_)
      ·refine ai<|ad Z<|z7<|zg<|zi (x:=.bool _) Z ?_
       rw[qf (fun h=>by have:=(h.2.2.2.1 k hk2).1;simp[this] at cv)]
      ·refine zf<|zb<|ai<|aa Z<|aa Z<|z7<|zh<|y7 (γ:=Nat) [1,3,9,10,12,107,108,109,118] (fun j=>[(119,.int .i64 j)]) (fun j=>[(i12,.cells 60 (aE f.blocks[k]))]) (fun j=>j≤k∧∀s∈(f.blocks.take j).map (·.name),s≠f.blocks[k].name) (fun j=>k - j) 0 aV aU (⟨q5 _,by simp⟩) ?_
       rintro j ⟨hj,hno⟩
       refine ai<|ay Z Z<|z7<|zb<|zt Z (fun cj=>?_) (fun cj=>?_)
       ·have hj1:j<f.blocks.length:=by omega
        refine zf<|zb<|zh<|ai<|aa Z<|aw Z<|z7<|zb<|ya (fun j=>false) (by kernel_rfl) Z (yh (.r (.rest _)))<|aN 0 Z (f9 j6 Z ji Z Z)<|aN 1 Z (lx js Z)<|aN 2 Z (kq Z)<|aN 3 Z (yk ja jj Z Z Z (q2 (by omega)))<|aN 4 Z (f9 j5 Z jy Z Z)<|aN 5 Z (Gv.load1F (c:=.str _) Z1 Z)<|aN 6 Z (zd j5 Z jy (by decide) Z Z)<|aN 7 Z (zj (c:=.str _) Z1 Z ⟨_,.head⟩ Z)<|aN 8 Z (Gv.eqlT Z Z)<|kV<|zt Z (fun ce=>?_) (fun ce=>?_)
        ·refine ai<|ad Z<|z7<|zg<|zi (x:=.bool _) Z ?_
         rw[qf (fun h=>by exact rT (g:=az.name) hj1 (by omega) (h.2.2.2.1 k hk2).2 ce)]
        ·refine zf<|bg<|aB Z Z<|aa Z<|z7 ?_
         exact ⟨j+1,ne,aV,aU,⟨by omega,oY hj1 hno ce⟩,by omega⟩
       ·obtain rfl:j=k:=by omega
        have hs1:=lQ f.blocks j hk2
        refine zy<|ai<|aa Z<|za (zd j5 Z jw (by decide) Z Z)<|za (zj (c:=.fro _ _) Z8 Z ⟨_,.head⟩ Z)<|ac jl Z<|aB Z Z<|za (zd j5 Z Z0 (by decide) Z Z)<|za (zj (c:=.fro _ _) Ze Z ⟨_,.head⟩ Z)<|ac jo Z<|aB Z Z<|aw Z<|z7<|zb<|ai<|aa Z<|za (yy Z Z)<|z7<|zt Z (fun cs=>?_) (fun cs=>?_)
        ·refine ai<|ad Z<|z7<|zg<|zi (x:=.bool _) Z ?_
         rw[qf (fun h=>by have:=h.2.2.2.2.1;have:=qy f.blocks (j+1);omega)]
        ·refine zf<|zb<|ai<|za (zd j5 Z jw (by decide) Z Z)<|za (zj (c:=.fro _ _) Z8 Z ⟨_,.head⟩ Z)<|ac jl Z<|aa Z<|z7<|zh<|y7 (γ:=Nat) [1,3,9,10,12,107,108,109,144,145] (fun p=>[(146,.int .i64 p)]) (fun p=>[(i12,.cells 60 (aE f.blocks[j]))]) (fun p=>p≤f.blocks[j].phis.length∧∀q∈f.blocks[j].phis.take p,nQ f q) (fun p=>f.blocks[j].phis.length - p) 0 aV aU (⟨q5 _,by simp⟩) ?_
         rintro p ⟨hp,hphi⟩
         refine ai<|ay Z Z<|z7<|zb<|zt Z (fun cp=>?_) (fun cp=>?_)
         ·have hp2:p<f.blocks[j].phis.length:=by omega
          obtain ⟨hq1,hq2⟩:=hb3 _ (q6 hp2)
          have hl6:=hq1.lt
          have hl7:=hq2.lt
          refine zf<|zb<|zh<|ai<|za (yk jl jp Z Z Z (q2 (by omega)))<|ab Zf jp Z Z<|zp (cs:=[.int .i64 0,.raw (.slice none 0 0),.raw (.slice none 0 0)]) jz Z Z<|fun i15=>zm jp Z Z Z Z Z Z .head Z<|z7<|zb<|zb<|yn (γ:=Unit) [1,3,9,10,12,15,107,108,109,144,145,146] (fun u=>[(169,.bool (!bf f f.blocks[j].phis[p].dst||(!decide ((f.blocks[j].phis[p].args.length:Int)=f.blocks[j].phis[p].from_.length)||decide ((f.blocks[j].phis[p].args.length:Int)<1))))]) (fun u=>[(i15,.cells 73 (aL f.blocks[j].phis[p])),(i12,.cells 60 (aE f.blocks[j]))]) (fun u=>True) ?_ (fun _ _ h=>h) ?_
          ·refine bg<|za (zd jc Z j9 (by decide) Z Z)<|za (zj (c:=.int _ _) jf Z ⟨_,.head⟩ Z)<|aa Z<|ze (d7 _ _) Z<|aH Z<|aj Z<|zk (s:=155) Z (fun c7=>?_) (fun c7=>?_)
           ·refine z6 Z Z c7<|z6 Z Z c7<|z6 Z Z c7<|z6 Z Z c7<|z6 Z Z c7<|z6 Z Z c7<|z6 Z Z c7<|ak Z c7 Z<|aj Z<|z6 Z Z Z<|z6 Z Z Z<|z6 Z Z Z<|z6 Z Z Z<|ak Z Z Z<|z7 ?_
            exact ⟨(),gk,⟨jb (by simp_all[bf]<;>grind),trivial⟩,aU,trivial⟩
           ·refine z8 Z Z c7<|za (zd jc Z je (by decide) Z Z)<|z8 Z Z c7<|za (zj (c:=.fro _ _) jm Z ⟨_,.head⟩ Z)<|z8 Z Z c7<|ac j4 Z<|z8 Z Z c7<|za (zd jc Z je (by decide) Z Z)<|z8 Z Z c7<|za (zj (c:=.fro _ _) jm Z ⟨_,.head⟩ Z)<|z8 Z Z c7<|ac j4 Z<|z8 Z Z c7<|aG Z Z<|al Z c7 Z<|aj Z<|zk (s:=164) Z (fun c8=>?_) (fun c8=>?_)
            ·refine z6 Z Z c8<|z6 Z Z c8<|z6 Z Z c8<|z6 Z Z c8<|ak Z c8 Z<|z7 ?_
             exact ⟨(),gk,⟨jb (by simp_all[bf]<;>grind),trivial⟩,aU,trivial⟩
            ·refine z8 Z Z c8<|za (zd jc Z je (by decide) Z Z)<|z8 Z Z c8<|za (zj (c:=.fro _ _) jm Z ⟨_,.head⟩ Z)<|z8 Z Z c8<|ac j4 Z<|z8 Z Z c8<|ay Z Z<|al Z c8 Z<|z7 ?_
             exact ⟨(),gk,⟨jb (by simp_all[bf]<;>grind),trivial⟩,aU,trivial⟩
          ·rintro _ _
           refine zu Z (fun cq=>?_) (fun cq=>?_)
           ·refine ai<|ad Z<|z7<|zg<|zi (x:=.bool _) Z ?_
            rw[qf (fun h=>by have:=(h.2.2.2.2.2 _ (q6 hk2)).1 _ (q6 hp2);obtain ⟨h1,h2,h3,_⟩:=this;rw[h1,h2] at cq;simp only[Bool.not_true,Bool.false_or,decide_true,qh] at cq;omega)]
           ·have hq3:bf f f.blocks[j].phis[p].dst=true∧f.blocks[j].phis[p].args.length=f.blocks[j].phis[p].from_.length∧1≤f.blocks[j].phis[p].args.length:=by
             rcases Bool.or_eq_false_iff.1 cq with ⟨a1,a2⟩
             rcases Bool.or_eq_false_iff.1 a2 with ⟨a3,a4⟩
             exact ⟨by simpa using a1,by simp only[Bool.not_eq_false',qh] at a3;omega,by have:=of_decide_eq_false a4;omega⟩
            refine zf<|ai<|za (zd jc Z je (by decide) Z Z)<|za (zj (c:=.fro _ _) jm Z ⟨_,.head⟩ Z)<|ac j4 Z<|aa Z<|z7<|zh<|y7 (γ:=Nat) [1,3,9,10,12,15,107,108,109,144,145,146,172] (fun m=>[(173,.int .i64 m)]) (fun m=>[(i15,.cells 73 (aL f.blocks[j].phis[p])),(i12,.cells 60 (aE f.blocks[j]))]) (fun m=>m≤f.blocks[j].phis[p].args.length∧(f.blocks[j].phis[p].args.take m).all (bf f)=true∧(f.blocks[j].phis[p].from_.take m).all (cW f)=true) (fun m=>f.blocks[j].phis[p].args.length - m) 0 aV aU (⟨q5 _,Z,Z⟩) ?_
            rintro m ⟨hm,ha1,ha2⟩
            refine ai<|ay Z Z<|z7<|zb<|zt Z (fun cm=>?_) (fun cm=>?_)
            ·have hm1:m<f.blocks[j].phis[p].args.length:=by omega
             have hm2:m<f.blocks[j].phis[p].from_.length:=by omega
             refine zf<|zb<|zh<|ai<|aa Z<|aw Z<|z7<|zb<|yn (γ:=Unit) [1,3,9,10,12,15,107,108,109,144,145,146,172,173] (fun u=>[(193,.bool (!bf f f.blocks[j].phis[p].args[m]||!cW f f.blocks[j].phis[p].from_[m]))]) (fun u=>[(i15,.cells 73 (aL f.blocks[j].phis[p])),(i12,.cells 60 (aE f.blocks[j]))]) (fun u=>True) ?_ (fun _ _ h=>h) ?_
             ·refine bg<|za (zd jc Z je (by decide) Z Z)<|za (zj (c:=.fro _ _) jm Z ⟨_,.head⟩ Z)<|aa Z<|za (yk j4 j9 Z Z Z (q2 (by omega)))<|aF jf Z<|aa Z<|ze (d7 _ _) Z<|aH Z<|aj Z<|zk (s:=184) Z (fun c9=>?_) (fun c9=>?_)
              ·refine z6 Z Z c9<|z6 Z Z c9<|z6 Z Z c9<|z6 Z Z c9<|z6 Z Z c9<|z6 Z Z c9<|z6 Z Z c9<|z6 Z Z c9<|ak Z c9 Z<|z7 ?_
               exact ⟨(),⟨rfl,rfl,rfl,rfl,rfl,rfl,rfl,rfl,rfl,rfl,rfl,rfl,rfl,rfl,trivial⟩,⟨jb (by simp_all[bf,cW]<;>grind),trivial⟩,aU,trivial⟩
              ·refine z8 Z Z c9<|za (zd jc Z je (by decide) Z Z)<|z8 Z Z c9<|za (zj (c:=.fro _ _) jm Z ⟨_,.head⟩ Z)<|z8 Z Z c9<|aa Z<|z8 Z Z c9<|za (yk j4 j9 Z Z Z (q2 (by omega)))<|z8 Z Z c9<|aF jf Z<|z8 Z Z c9<|aa Z<|z8 Z Z c9<|ze (d7 _ _) Z<|z8 Z Z c9<|aH Z<|al Z c9 Z<|z7 ?_
               exact ⟨(),⟨rfl,rfl,rfl,rfl,rfl,rfl,rfl,rfl,rfl,rfl,rfl,rfl,rfl,rfl,trivial⟩,⟨jb (by simp_all[bf,cW]<;>grind),trivial⟩,aU,trivial⟩
             ·rintro _ _
              refine zu Z (fun cw=>?_) (fun cw=>?_)
              ·refine ai<|ad Z<|z7<|zg<|zi (x:=.bool _) Z ?_
               rw[qf (fun h=>by have:=(h.2.2.2.2.2 _ (q6 hk2)).1 _ (q6 hp2);obtain ⟨_,_,_,h4,h5⟩:=this;have h6:=List.all_eq_true.1 h4 _ (q6 hm1);have h7:=List.all_eq_true.1 h5 _ (q6 hm2);rw[h6,h7] at cw;cases cw)]
              ·refine zf<|bg<|aB Z Z<|aa Z<|z7 ?_
               exact ⟨m+1,⟨rfl,rfl,rfl,rfl,rfl,rfl,rfl,rfl,rfl,rfl,rfl,rfl,rfl,trivial⟩,aV,aU,⟨hm1,bX hm1 ha1 (by simp at cw;exact cw.1),bX hm2 ha2 (by simp at cw;exact cw.2)⟩,by omega⟩
            ·rw[gv (by omega)] at ha1
             rw[gv (by omega)] at ha2
             refine zy<|bg<|aB Z Z<|aa Z<|z7 ?_
             exact ⟨p+1,⟨rfl,rfl,rfl,rfl,rfl,rfl,rfl,rfl,rfl,rfl,trivial⟩,aV,⟨_,(.drop (.refl _)),rfl⟩,⟨hp2,da hp2 hphi ⟨hq3.1,hq3.2.1,hq3.2.2,ha1,ha2⟩⟩,by omega⟩
         ·rw[gv (by omega)] at hphi
          refine zy<|zb<|ai<|za (zd j5 Z Z0 (by decide) Z Z)<|za (zj (c:=.fro _ _) Ze Z ⟨_,.head⟩ Z)<|ac jo Z<|aa Z<|z7<|zh<|y7 (γ:=Nat) [1,3,9,10,12,107,108,109,197,198] (fun p=>[(199,.int .i64 p)]) (fun p=>[(i12,.cells 60 (aE f.blocks[j]))]) (fun p=>p≤f.blocks[j].insts.length∧∀q∈f.blocks[j].insts.take p,lP f q) (fun p=>f.blocks[j].insts.length - p) 0 aV aU (⟨q5 _,by simp⟩) ?_
          rintro p ⟨hp,hins⟩
          refine ai<|ay Z Z<|z7<|zb<|zt Z (fun cp=>?_) (fun cp=>?_)
          ·have hp2:p<f.blocks[j].insts.length:=by omega
           have hq1:=hb4 _ (q6 hp2)
           have hl6:=hq1.lt
           refine zf<|zb<|zh<|ai<|za (yk jo jt Z Z Z (q2 (by omega)))<|ab Zm jt Z Z<|zp (cs:=[.int .i64 0,.int .i64 0,.raw (.slice none 0 0),.int .i64 0]) Zg Z Z<|fun i18=>zm jt Z Z Z Z Z Z .head Z<|z7<|zb<|zb<|yn (γ:=Unit) [1,3,9,10,12,18,107,108,109,197,198,199] (fun u=>[(210,.bool (decide (f.blocks[j].insts[p].op<0)||decide (26<f.blocks[j].insts[p].op)))]) (fun u=>[(i18,.cells 69 (aZ f.blocks[j].insts[p])),(i12,.cells 60 (aE f.blocks[j]))]) (fun u=>True) ?_ (fun _ _ h=>h) ?_
           ·refine bg<|za (zd jd Z Zd (by decide) Z Z)<|za (zj (c:=.int _ _) Zj Z ⟨_,.head⟩ Z)<|ay Z Z<|aj Z<|zk (s:=206) Z (fun c10=>?_) (fun c10=>?_)
            ·refine z6 Z Z c10<|z6 Z Z c10<|z6 Z Z c10<|ak Z c10 Z<|z7 ?_
             exact ⟨(),gk,⟨jb (by simp_all<;>grind),trivial⟩,aU,trivial⟩
            ·refine z8 Z Z c10<|za (zd jd Z Zd (by decide) Z Z)<|z8 Z Z c10<|za (zj (c:=.int _ _) Zj Z ⟨_,.head⟩ Z)<|z8 Z Z c10<|za (yy Z Z)<|al Z c10 Z<|z7 ?_
             exact ⟨(),gk,⟨jb (by simp_all<;>grind),trivial⟩,aU,trivial⟩
           ·rintro _ _
            refine zu Z (fun cq=>?_) (fun cq=>?_)
            ·refine ai<|ad Z<|z7<|zg<|zi (x:=.bool _) Z ?_
             rw[qf (fun h=>by have:=(h.2.2.2.2.2 _ (q6 hk2)).2.1 _ (q6 hp2);obtain ⟨h1,h2,_⟩:=this;simp at cq;omega)]
            ·have hop:0≤f.blocks[j].insts[p].op∧f.blocks[j].insts[p].op≤26:=by simp at cq;omega
             have hrow:em[f.blocks[j].insts[p].op.toNat]?=some (bv f.blocks[j].insts[p].op):=by unfold bv;rw[if_pos hop.1,q2 (show _<27 by omega)];rfl
             refine zf<|zb<|yn (γ:=Nat) [1,3,9,10,12,18,107,108,109,197,198,199] (fun i=>[(19,.po i 0)]) (fun i=>[(i18,.cells 69 (aZ f.blocks[j].insts[p])),(i,.cells 97 (mS (bv f.blocks[j].insts[p].op))),(i12,.cells 60 (aE f.blocks[j]))]) (fun i=>True) ?_ (fun _ _ h=>h) ?_
             ·refine ya (fun j=>Nat.beq j 6) (by kernel_rfl) Z (yh (.r (.rest _)))<|aN 1 Z (zd jd Z Zd (by decide) Z Z)<|aN 2 Z (zj (c:=.int _ _) Zj Z ⟨_,.head⟩ Z)<|yv (i:=0) (j:=5) Z Z (by kernel_rfl) ?_ ?_
              ·refine ze (gN) Z<|z7<|aN 3 Z (yk (j:=(f.blocks[j].insts[p].op.toNat)) underlying98 Zk Z Z (Int.toNat_of_nonneg hop.1).symm hrow)<|aN 4 Z (yo isAgg97 Zk Z Z)<|cP 5 Z<|zp (cs:=[.str ⟨#[]⟩,.str ⟨#[]⟩,.str ⟨#[]⟩]) zeroValue97 Z Z<|fun i19=>z7<|yc<|ye (i:=6) Z (by kernel_rfl) (by kernel_rfl)<|zm Zk Z Z Z Z Z Z .t1 Z<|z7<|yf (by kernel_rfl) ?_
               exact ⟨i19,gk,aV,aU,trivial⟩
              ·refine zp (cs:=[.str ⟨#[]⟩,.str ⟨#[]⟩,.str ⟨#[]⟩]) zeroValue97 Z Z<|fun i19=>z7<|cP 0 Z<|ze (gN) Z<|z7<|aN 3 Z (yk (j:=(f.blocks[j].insts[p].op.toNat)) underlying98 Zk Z Z (Int.toNat_of_nonneg hop.1).symm hrow)<|aN 4 Z (yo isAgg97 Zk Z Z)<|yc<|ye (i:=6) Z (by kernel_rfl) (by kernel_rfl)<|zm Zk Z Z Z Z Z Z .t1 Z<|z7<|yf (by kernel_rfl) ?_
               exact ⟨i19,gk,aV,aU,trivial⟩
             ·rintro i19 _
              refine zb<|zb<|yn (γ:=Unit) [1,3,9,10,12,18,107,108,109,197,198,199] (fun u=>[(258,.bool (iw f f.blocks[j].insts[p]))]) (fun u=>[(i18,.cells 69 (aZ f.blocks[j].insts[p])),(i19,.cells 97 (mS (bv f.blocks[j].insts[p].op))),(i12,.cells 60 (aE f.blocks[j]))]) (fun u=>True) ?_ (fun _ _ h=>h) ?_
              ·refine bg<|za (zd jd Z je (by decide) Z Z)<|za (zj (c:=.fro _ _) jm Z ⟨_,.head⟩ Z)<|ac j4 Z<|za (zd Z5 Z jy (by decide) Z Z)<|za (zj (c:=.str _) Z1 Z ⟨_,.t1⟩ Z)<|za (Gv.lenT jv Z)<|aG Z Z<|aj Z<|zk (s:=223) Z (fun c11=>?_) (fun c11=>?_)
               ·refine z6 Z Z c11<|z6 Z Z c11<|z6 Z Z c11<|z6 Z Z c11<|z6 Z Z c11<|z6 Z Z c11<|z6 Z Z c11<|ak Z c11 Z<|aj Z<|z6 Z Z Z<|z6 Z Z Z<|z6 Z Z Z<|z6 Z Z Z<|zc Z Z<|zc Z Z<|zc Z Z<|zc Z Z<|zc Z Z<|z6 Z Z Z<|ak Z Z Z<|aj Z<|z6 Z Z Z<|z6 Z Z Z<|z6 Z Z Z<|z6 Z Z Z<|zc Z Z<|zc Z Z<|zc Z Z<|z6 Z Z Z<|z6 Z Z Z<|zc Z Z<|zc Z Z<|zc Z Z<|z6 Z Z Z<|ak Z Z Z<|z7 ?_
                exact ⟨(),gk,⟨jb (by simp_all[iw,fZ,bf]<;>grind),trivial⟩,aU,trivial⟩
               ·refine z8 Z Z c11<|za (zd Z5 Z jy (by decide) Z Z)<|z8 Z Z c11<|za (zj (c:=.str _) Z1 Z ⟨_,.t1⟩ Z)<|z8 Z Z c11<|za (Gv.eqlT Z Z)<|z8 Z Z c11<|za (zd jd Z j9 (by decide) Z Z)<|z8 Z Z c11<|za (zj (c:=.int _ _) jf Z ⟨_,.head⟩ Z)<|z8 Z Z c11<|aq Z Z<|z8 Z Z c11<|za (Gv.neqB underlying4 Z Z)<|al Z c11 Z<|aj Z<|zk (s:=232) Z (fun c12=>?_) (fun c12=>?_)
                ·refine z6 Z Z c12<|z6 Z Z c12<|z6 Z Z c12<|z6 Z Z c12<|zc Z Z<|zc Z Z<|zc Z Z<|zc Z Z<|zc Z Z<|z6 Z Z c12<|ak Z c12 Z<|aj Z<|z6 Z Z Z<|z6 Z Z Z<|z6 Z Z Z<|z6 Z Z Z<|zc Z Z<|zc Z Z<|zc Z Z<|z6 Z Z Z<|z6 Z Z Z<|zc Z Z<|zc Z Z<|zc Z Z<|z6 Z Z Z<|ak Z Z Z<|z7 ?_
                 exact ⟨(),gk,⟨jb (by simp_all[iw,fZ,bf]<;>grind),trivial⟩,aU,trivial⟩
                ·refine z8 Z Z c12<|za (zd jd Z j9 (by decide) Z Z)<|z8 Z Z c12<|za (zj (c:=.int _ _) jf Z ⟨_,.head⟩ Z)<|z8 Z Z c12<|aG Z Z<|z8 Z Z c12<|aj Z<|zk (s:=236) Z (fun c13=>?_) (fun c13=>?_)
                 ·refine z8 Z Z c13<|za (zd jd Z j9 (by decide) Z Z)<|z8 Z Z c13<|za (zj (c:=.int _ _) jf Z ⟨_,.head⟩ Z)<|z8 Z Z c13<|aa Z<|z8 Z Z c13<|ze (d7 _ _) Z<|z8 Z Z c13<|aH Z<|z8 Z Z c12<|ak Z c13 Z<|al Z c12 Z<|aj Z<|zk (s:=244) Z (fun c14=>?_) (fun c14=>?_)
                  ·refine z6 Z Z c14<|z6 Z Z c14<|z6 Z Z c14<|z6 Z Z c14<|zc Z Z<|zc Z Z<|zc Z Z<|z6 Z Z c14<|z6 Z Z c14<|zc Z Z<|zc Z Z<|zc Z Z<|z6 Z Z c14<|ak Z c14 Z<|z7 ?_
                   exact ⟨(),gk,⟨jb (by simp_all[iw,fZ,bf]<;>grind),trivial⟩,aU,trivial⟩
                  ·refine z8 Z Z c14<|za (zd jd Z sizeOf2 (by decide) Z Z)<|z8 Z Z c14<|za (zj (c:=.int _ _) isAgg2 Z ⟨_,.head⟩ Z)<|z8 Z Z c14<|aG Z Z<|z8 Z Z c14<|aj Z<|zk (s:=248) Z (fun c15=>?_) (fun c15=>?_)
                   ·refine z8 Z Z c15<|za (zd Z5 Z jy (by decide) Z Z)<|z8 Z Z c15<|za (zj (c:=.str _) Z1 Z ⟨_,.t1⟩ Z)<|z8 Z Z c15<|za (Gv.neqT Z Z)<|z8 Z Z c14<|ak Z c15 Z<|z8 Z Z c14<|aj Z<|zk (s:=253) Z (fun c16=>?_) (fun c16=>?_)
                    ·refine z8 Z Z c16<|za (zd Z5 Z jy (by decide) Z Z)<|z8 Z Z c16<|za (zj (c:=.str _) Z1 Z ⟨_,.t1⟩ Z)<|z8 Z Z c16<|za (Gv.neqT Z Z)<|z8 Z Z c14<|ak Z c16 Z<|al Z c14 Z<|z7 ?_
                     exact ⟨(),gk,⟨jb (by simp_all[iw,fZ,bf]<;>grind),trivial⟩,aU,trivial⟩
                    ·refine z6 Z Z c16<|z6 Z Z c16<|z6 Z Z c16<|z8 Z Z c14<|al Z c16 Z<|al Z c14 Z<|z7 ?_
                     exact ⟨(),gk,⟨jb (by simp_all[iw,fZ,bf]<;>grind),trivial⟩,aU,trivial⟩
                   ·refine z6 Z Z c15<|z6 Z Z c15<|z6 Z Z c15<|z8 Z Z c14<|al Z c15 Z<|z8 Z Z c14<|aj Z<|z6 Z Z Z<|z6 Z Z Z<|z6 Z Z Z<|z8 Z Z c14<|al Z Z Z<|al Z c14 Z<|z7 ?_
                    exact ⟨(),gk,⟨jb (by simp_all[iw,fZ,bf]<;>grind),trivial⟩,aU,trivial⟩
                 ·refine z6 Z Z c13<|z6 Z Z c13<|z6 Z Z c13<|z6 Z Z c13<|z6 Z Z c13<|z8 Z Z c12<|al Z c13 Z<|al Z c12 Z<|aj Z<|z8 Z Z Z<|za (zd jd Z sizeOf2 (by decide) Z Z)<|z8 Z Z Z<|za (zj (c:=.int _ _) isAgg2 Z ⟨_,.head⟩ Z)<|z8 Z Z Z<|aG Z Z<|z8 Z Z Z<|aj Z<|zk (s:=248) Z (fun c17=>?_) (fun c17=>?_)
                  ·refine z8 Z Z c17<|za (zd Z5 Z jy (by decide) Z Z)<|z8 Z Z c17<|za (zj (c:=.str _) Z1 Z ⟨_,.t1⟩ Z)<|z8 Z Z c17<|za (Gv.neqT Z Z)<|z8 Z Z Z<|ak Z c17 Z<|z8 Z Z Z<|aj Z<|zk (s:=253) Z (fun c18=>?_) (fun c18=>?_)
                   ·refine z8 Z Z c18<|za (zd Z5 Z jy (by decide) Z Z)<|z8 Z Z c18<|za (zj (c:=.str _) Z1 Z ⟨_,.t1⟩ Z)<|z8 Z Z c18<|za (Gv.neqT Z Z)<|z8 Z Z Z<|ak Z c18 Z<|al Z Z Z<|z7 ?_
                    exact ⟨(),gk,⟨jb (by simp_all[iw,fZ,bf]<;>grind),trivial⟩,aU,trivial⟩
                   ·refine z6 Z Z c18<|z6 Z Z c18<|z6 Z Z c18<|z8 Z Z Z<|al Z c18 Z<|al Z Z Z<|z7 ?_
                    exact ⟨(),gk,⟨jb (by simp_all[iw,fZ,bf]<;>grind),trivial⟩,aU,trivial⟩
                  ·refine z6 Z Z c17<|z6 Z Z c17<|z6 Z Z c17<|z8 Z Z Z<|al Z c17 Z<|z8 Z Z Z<|aj Z<|z6 Z Z Z<|z6 Z Z Z<|z6 Z Z Z<|z8 Z Z Z<|al Z Z Z<|al Z Z Z<|z7 ?_
                   exact ⟨(),gk,⟨jb (by simp_all[iw,fZ,bf]<;>grind),trivial⟩,aU,trivial⟩
              ·rintro _ _
               refine zu Z (fun cw=>?_) (fun cw=>?_)
               ·refine ai<|ad Z<|z7<|zg<|zi (x:=.bool _) Z ?_
                rw[qf (fun h=>by have:=(h.2.2.2.2.2 _ (q6 hk2)).2.1 _ (q6 hp2);rw[this.2.2.1] at cw;cases cw)]
               ·refine zf<|ai<|za (zd jd Z je (by decide) Z Z)<|za (zj (c:=.fro _ _) jm Z ⟨_,.head⟩ Z)<|ac j4 Z<|aa Z<|z7<|zh<|y7 (γ:=Nat) [1,3,9,10,12,107,108,109,197,198,199,260,261] (fun m=>[(262,.int .i64 m)]) (fun m=>[(i18,.cells 69 (aZ f.blocks[j].insts[p])),(i12,.cells 60 (aE f.blocks[j]))]) (fun m=>m≤f.blocks[j].insts[p].args.length∧(f.blocks[j].insts[p].args.take m).all (bf f)=true) (fun m=>f.blocks[j].insts[p].args.length - m) 0 aV ⟨_,(.keep (.drop (.refl _))),Z⟩ (⟨q5 _,Z⟩) ?_
                rintro m ⟨hm,ha1⟩
                refine ai<|ay Z Z<|z7<|zb<|zt Z (fun cm=>?_) (fun cm=>?_)
                ·have hm1:m<f.blocks[j].insts[p].args.length:=by omega
                 refine zf<|zb<|zh<|ai<|za (yk j4 j9 Z Z Z (q2 (by omega)))<|aF jf Z<|aw Z<|z7<|ai<|aa Z<|aa Z<|ze (d7 _ _) Z<|aH Z<|z7<|zu Z (fun ca=>?_) (fun ca=>?_)
                 ·have ca:bf f f.blocks[j].insts[p].args[m]=false:=by simp[bf] at ca ⊢;omega
                  refine ai<|ad Z<|z7<|zg<|zi (x:=.bool _) Z ?_
                  rw[qf (fun h=>by have:=(h.2.2.2.2.2 _ (q6 hk2)).2.1 _ (q6 hp2);have h6:=List.all_eq_true.1 this.2.2.2 _ (q6 hm1);rw[ca] at h6;cases h6)]
                 ·have ca:bf f f.blocks[j].insts[p].args[m]=true:=by simp[bf] at ca ⊢;omega
                  refine zf<|bg<|aB Z Z<|aa Z<|z7 ?_
                  exact ⟨m+1,⟨rfl,rfl,rfl,rfl,rfl,rfl,rfl,rfl,rfl,rfl,rfl,rfl,rfl,trivial⟩,aV,aU,⟨hm1,bX hm1 ha1 ca⟩,by omega⟩
                ·rw[gv (by omega)] at ha1
                 refine zy<|bg<|aB Z Z<|aa Z<|z7 ?_
                 exact ⟨p+1,⟨rfl,rfl,rfl,rfl,rfl,rfl,rfl,rfl,rfl,rfl,trivial⟩,aV,⟨_,(.drop (.refl _)),rfl⟩,⟨hp2,da hp2 hins ⟨hop.1,hop.2,cw,ha1⟩⟩,by omega⟩
          ·rw[gv (by omega)] at hins
           refine zy<|ai<|za (zd j5 Z jn (by decide) Z Z)<|za (Gv.loadAC (l:=[_,_,_,_]) Zo jn Z ⟨_,.head⟩ Z Z)<|zp (cs:=[.int .i64 0,.int .i64 0,.int .i64 0,.int .i64 0]) zeroValue58 Z Z<|fun i22=>zm jn Z Z Z Z Z Z .head Z<|z7<|ai<|ad Z<|z7<|zb<|ai<|za (zd j7 Z Z2 (by decide) Z Z)<|za (zj (c:=.int _ _) Z6 Z ⟨_,.head⟩ Z)<|z7<|yn (γ:=Unit) [1,3,9,10,107,108,109] (fun u=>[(23,.bool (bb f f.blocks[j].term))]) (fun u=>[]) (fun u=>True) ?_ (fun _ _ h=>h) ?_
           ·refine zh<|ai<|aq Z Z<|ad Z<|z7<|zu Z (fun c19=>?_) (fun c19=>?_)
            ·refine bg<|za (zd j7 Z jr (by decide) Z Z)<|za (q1 (j:=0) jg j9 Z Z Z (by decide) Z)<|za (zj (c:=.int _ _) jf Z ⟨_,.head⟩ Z)<|aa Z<|ze (d7 _ _) Z<|aj Z<|zk (s:=283) Z (fun c20=>?_) (fun c20=>?_)
             ·refine z8 Z Z c20<|za (zd j7 Z jr (by decide) Z Z)<|z8 Z Z c20<|za (q1 (j:=1) jg j9 Z Z Z (by decide) Z)<|z8 Z Z c20<|za (zj (c:=.int _ _) jf Z ⟨_,.head⟩ Z)<|z8 Z Z c20<|aq Z Z<|ak Z c20 Z<|aj Z<|zk (s:=289) Z (fun c21=>?_) (fun c21=>?_)
              ·refine z8 Z Z c21<|za (zd j7 Z j9 (by decide) Z Z)<|z8 Z Z c21<|za (zj (c:=.int _ _) jf Z ⟨_,.head⟩ Z)<|z8 Z Z c21<|aq Z Z<|ak Z c21 Z<|ad Z<|z7 ?_
               exact ⟨(),gY,⟨jb (by simp_all[bb,bf,cW]<;>grind),trivial⟩,⟨_,(.drop (.drop (.refl _))),rfl⟩,trivial⟩
              ·refine z6 Z Z c21<|z6 Z Z c21<|z6 Z Z c21<|al Z c21 Z<|ad Z<|z7 ?_
               exact ⟨(),gY,⟨jb (by simp_all[bb,bf,cW]<;>grind),trivial⟩,⟨_,(.drop (.drop (.refl _))),rfl⟩,trivial⟩
             ·refine z6 Z Z c20<|z6 Z Z c20<|z6 Z Z c20<|z6 Z Z c20<|al Z c20 Z<|aj Z<|z6 Z Z Z<|z6 Z Z Z<|z6 Z Z Z<|al Z Z Z<|ad Z<|z7 ?_
              exact ⟨(),gY,⟨jb (by simp_all[bb,bf,cW]<;>grind),trivial⟩,⟨_,(.drop (.drop (.refl _))),rfl⟩,trivial⟩
            ·refine ai<|aq Z Z<|ad Z<|z7<|zu Z (fun c22=>?_) (fun c22=>?_)
             ·refine bg<|za (zd j7 Z j9 (by decide) Z Z)<|za (zj (c:=.int _ _) jf Z ⟨_,.head⟩ Z)<|aa Z<|ze (d7 _ _) Z<|aj Z<|zk (s:=300) Z (fun c23=>?_) (fun c23=>?_)
              ·refine z8 Z Z c23<|za (zd j7 Z jr (by decide) Z Z)<|z8 Z Z c23<|za (q1 (j:=0) jg j9 Z Z Z (by decide) Z)<|z8 Z Z c23<|za (zj (c:=.int _ _) jf Z ⟨_,.head⟩ Z)<|z8 Z Z c23<|aa Z<|z8 Z Z c23<|ze (d7 _ _) Z<|ak Z c23 Z<|aj Z<|zk (s:=307) Z (fun c24=>?_) (fun c24=>?_)
               ·refine z8 Z Z c24<|za (zd j7 Z jr (by decide) Z Z)<|z8 Z Z c24<|za (q1 (j:=1) jg j9 Z Z Z (by decide) Z)<|z8 Z Z c24<|za (zj (c:=.int _ _) jf Z ⟨_,.head⟩ Z)<|z8 Z Z c24<|aa Z<|z8 Z Z c24<|ze (d7 _ _) Z<|ak Z c24 Z<|ad Z<|z7 ?_
                exact ⟨(),gY,⟨jb (by simp_all[bb,bf,cW]<;>grind),trivial⟩,⟨_,(.drop (.drop (.refl _))),rfl⟩,trivial⟩
               ·refine z6 Z Z c24<|z6 Z Z c24<|z6 Z Z c24<|z6 Z Z c24<|z6 Z Z c24<|al Z c24 Z<|ad Z<|z7 ?_
                exact ⟨(),gY,⟨jb (by simp_all[bb,bf,cW]<;>grind),trivial⟩,⟨_,(.drop (.drop (.refl _))),rfl⟩,trivial⟩
              ·refine z6 Z Z c23<|z6 Z Z c23<|z6 Z Z c23<|z6 Z Z c23<|z6 Z Z c23<|al Z c23 Z<|aj Z<|z6 Z Z Z<|z6 Z Z Z<|z6 Z Z Z<|z6 Z Z Z<|z6 Z Z Z<|al Z Z Z<|ad Z<|z7 ?_
               exact ⟨(),gY,⟨jb (by simp_all[bb,bf,cW]<;>grind),trivial⟩,⟨_,(.drop (.drop (.refl _))),rfl⟩,trivial⟩
             ·refine ai<|aq Z Z<|ad Z<|z7<|zu Z (fun c25=>?_) (fun c25=>?_)
              ·refine bg<|za (zd j7 Z j9 (by decide) Z Z)<|za (zj (c:=.int _ _) jf Z ⟨_,.head⟩ Z)<|aa Z<|ze (d7 _ _) Z<|aj Z<|zk (s:=320) Z (fun c26=>?_) (fun c26=>?_)
               ·refine z8 Z Z c26<|za (zd j7 Z jr (by decide) Z Z)<|z8 Z Z c26<|za (Gv.loadAC (l:=[_,_]) isAgg56 jr Z ⟨_,.head⟩ Z Z)<|z8 Z Z c26<|za (Gv.buildA (cps:=[]) (rs:=[.int .i64 0,.int .i64 0]) vT Z Z Z)<|z8 Z Z c26<|za (Gv.eqlP (xs:=[.int _ _,.int _ _]) (ys:=[.int _ _,.int _ _]) (by kernel_rfl) Z Z (fun w=>oX _ _ _ _ w))<|ak Z c26 Z<|ad Z<|z7 ?_
                exact ⟨(),gY,⟨jb (by simp_all[bb,bf,cW]<;>grind),trivial⟩,⟨_,(.drop (.drop (.refl _))),rfl⟩,trivial⟩
               ·refine z6 Z Z c26<|z6 Z Z c26<|z6 Z Z c26<|z6 Z Z c26<|al Z c26 Z<|ad Z<|z7 ?_
                exact ⟨(),gY,⟨jb (by simp_all[bb,bf,cW]<;>grind),trivial⟩,⟨_,(.drop (.drop (.refl _))),rfl⟩,trivial⟩
              ·refine zf ?_
               exact ⟨(),gY,⟨jb (by simp_all[bb,bf,cW]<;>grind),trivial⟩,⟨_,(.drop (.drop (.refl _))),rfl⟩,trivial⟩
           ·rintro _ _
            refine ai<|aj Z<|aH Z<|z7<|zu Z (fun ct=>?_) (fun ct=>?_)
            ·refine ai<|ad Z<|z7<|zg<|zi (x:=.bool _) Z ?_
             rw[qf (fun h=>by have:=(h.2.2.2.2.2 _ (q6 hk2)).2.2;rw[this] at ct;cases ct)]
            ·have ct:bb f f.blocks[j].term=true:=by simpa using ct
             refine zf<|bg<|aB Z Z<|aa Z<|z7 ?_
             exact ⟨j+1,Ao,⟨rfl,(congrArg (AV.int .i64) (by rw[hs1];omega)),trivial⟩,aU,⟨hk2,fun i h hi=>by rcases Nat.lt_or_ge i j with h3|h3;exact hnam i h h3;obtain rfl:i=j:=(by omega);exact ⟨by simpa using cv,hno⟩,by omega,da hk2 hblk ⟨hphi,hins,ct⟩⟩,by omega⟩
     ·have hkn:k=f.blocks.length:=by omega
      subst hkn
      rw[q7] at hsum hblk
      refine zy<|ai<|ad Z<|z7<|zg<|zi (x:=.bool _) Z ?_
      rw[qe (show bw f from ⟨c1,hpars,hvars,fun i h=>hnam i h h,hsum,hblk⟩)]
end Go.Proofs.YtjpnhkmfhlnpcaaGreatDoor
