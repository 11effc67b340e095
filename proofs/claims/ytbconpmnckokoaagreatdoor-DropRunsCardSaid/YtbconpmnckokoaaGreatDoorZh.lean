/- Cells of a slice of one's own that lead to another one: named, or known henceforth. No conditions. -/
import Derived.Test.YtbconpmnckokoaaGreatDoorZg
import Derived.Test.YtbconpmnckokoaaGreatDoorZe
import Derived.Test.YtbconpmnckokoaaGreatDoorZf
set_option linter.unusedVariables false
set_option linter.unusedSimpArgs false
set_option linter.unusedSectionVars false
namespace Go.Proofs.YtbconpmnckokoaaGreatDoor
section
open Go.Proofs.Tryz
open Go.Proofs Go.Lib Go.Shelf Go.RowKit
set_option maxRecDepth 20000
variable {E:World}
theorem hU {α:Type} (g:α→Nat):∀(l:List α) (k:Nat),((l.take k).map g).sum≤(l.map g).sum
 |[],k=>by simp
 |x::l,0=>by simp
 |x::l,k+1=>by
  have:=hU g l k
  simp only[List.take_succ_cons,List.map_cons,List.sum_cons];omega
theorem zX (l:List cV) (k:Nat):wP (l.take k)≤wP l:=hU _ l k
theorem zY (l:List aD) (k:Nat):wX (l.take k)≤wX l:=hU _ l k
theorem iH {f:ai} (h:iE f) {k:Nat} (hk:k<f.blocks.length):wV f.vars+pd (f.blocks.take k)+wB f.blocks[k]≤4000:=by
 have h1:=h.2.2.2.2.2 (fun e=>by rw[e] at hk;exact absurd hk (Nat.not_lt_zero _))
 have h2:pd (f.blocks.take (k+1))≤pd f.blocks:=hU _ f.blocks (k+1)
 rw[oe hk] at h2
 omega
set_option maxHeartbeats 8000000 in
theorem oz (f:ai) (hf:og f):bC prog E 6 [.agg (bW f)] [] (fun x _=>∃b:Bool,x=.bool b∧(b=true↔iE f)):=by
 obtain ⟨hf1,hf2,hf3,hf4⟩:=hf
 have hl1:=hf1.lt
 have hl3:=hf3.lt
 refine zr func6 Z (by decide) Z<|ao<|yf (cs:=_) Z Z Z<|ab Z<|z6<|zb<|zb<|yp (γ:=Unit) [1] (fun u=>[(27,.bool (uW f))]) (fun u=>[]) (fun u=>True) ?_ (fun _ _ h=>h) ?_
 ·refine bj<|aw jj Z Y4 Z Z<|aT Yb Z<|aj Z5 Z<|z8 (q3 Z Z)<|ah Z<|zm (s:=16) Z (fun c1=>?_) (fun c1=>?_)
  ·refine z2 Z Z c1<|z2 Z Z c1<|z2 Z Z c1<|z2 Z Z c1<|ap Z c1 Z<|ah Z<|z2 Z Z Z<|z2 Z Z Z<|z2 Z Z Z<|z2 Z Z Z<|ap Z Z Z<|z6 ?_
   exact ⟨(),aY,⟨jb (by simp_all[uW]<;>grind),trivial⟩,aS,trivial⟩
  ·refine z7 Z Z c1<|aw jj Z Z6 Z Z<|z7 Z Z c1<|aT Zk Z<|z7 Z Z c1<|aj jp Z<|z7 Z Z c1<|z8 (q3 Z Z)<|aq Z c1 Z<|ah Z<|zm (s:=22) Z (fun c2=>?_) (fun c2=>?_)
   ·refine z2 Z Z c2<|z2 Z Z c2<|z2 Z Z c2<|z2 Z Z c2<|ap Z c2 Z<|z6 ?_
    exact ⟨(),aY,⟨jb (by simp_all[uW]<;>grind),trivial⟩,aS,trivial⟩
   ·refine z7 Z Z c2<|aw jj Z jn Z Z<|z7 Z Z c2<|aT js Z<|z7 Z Z c2<|aj j6 Z<|z7 Z Z c2<|z8 (q3 Z Z)<|aq Z c2 Z<|z6 ?_
    exact ⟨(),aY,⟨jb (by simp_all[uW]<;>grind),trivial⟩,aS,trivial⟩
 ·rintro _ _
  refine zw Z (fun c1=>?_) (fun c1=>?_)
  ·refine ao<|ab Z<|z6<|ze<|zi (x:=.bool _) Z ?_
   exact ⟨_,rfl,fun h=>(by cases h),fun hl=>absurd hl (fun hl=>by have h1:=hl.1;have h2:=hl.2.1;have h3:=hl.2.2.1;unfold uW at c1;simp at c1;omega)⟩
  ·have hsz:f.vars.length≤100∧f.blocks.length≤40∧f.params.length≤20:=by unfold uW at c1;simp at c1;omega
   refine zg<|ao<|ax Z<|z6<|zb<|ao<|aw jj Z Y4 Z Z<|aT Yb Z<|aj Z5 Z<|aa Z<|z6<|zk<|yd (γ:=Nat) [1,29,30] (fun k=>[(31,.int .i64 k),(3,.int .i64 (wV (f.vars.take k)))]) (fun k=>[]) (fun k=>k≤f.vars.length∧wV (f.vars.take k)≤400*k∧∀v∈f.vars.take k,v.name.size≤400) (fun k=>f.vars.length - k) 0 dX aS (⟨qr _,Nat.le_refl _,by simp⟩) ?_
   rintro k ⟨hk,hw,hv⟩
   refine ao<|ay Z Z<|z6<|zb<|zp Z (fun ck=>?_) (fun ck=>?_)
   ·have hk1:k<f.vars.length:=by omega
    have hs:=yV hk1
    refine zg<|zb<|zk<|ao<|z8 (q8 Z5 Zx Z Z Z (qo (by omega)))<|ac isAgg73 Zx Z Z<|zz (cs:=[.str ⟨#[]⟩,.int .i64 0]) zeroValue73 Z Z<|fun i5=>zx Zx Z Z Z Z Z Z .head Z<|z6<|zb<|ao<|z8 (za Zi Z Zg (by decide) Z Z)<|z8 (zd (c:=.str _) Zn Z ⟨_,.head⟩ Z)<|z8 (Gv.lenT Zd Z)<|z8 (q3 Z Z)<|z6<|zp Z (fun cn=>?_) (fun cn=>?_)
    ·refine ao<|ab Z<|z6<|ze<|zi (x:=.bool _) Z ?_
     exact ⟨_,rfl,fun h=>(by cases h),fun hl=>absurd hl (fun hl=>by have h1:=hl.2.2.2.1 _ (qs hk1);omega)⟩
    ·refine zg<|bj<|aa Z<|z8 (za Zi Z Zg (by decide) Z Z)<|z8 (zd (c:=.str _) Zn Z ⟨_,.head⟩ Z)<|z8 (Gv.lenT Zd Z)<|aF Z Z<|ax Z<|z6<|bj<|aF Z Z<|aa Z<|z6 ?_
     exact ⟨k+1,gB,⟨rfl,congrArg (AV.int .i64) (by rw[hs];omega),trivial⟩,⟨_,(.drop (.refl _)),rfl⟩,⟨hk1,by omega,cX hk1 hv (by omega)⟩,by omega⟩
   ·obtain rfl:k=f.vars.length:=by omega
    rw[qt] at hw hv
    rw[qt]
    refine yc<|zb<|ao<|aw jj Z Z6 Z Z<|aT Zk Z<|aj jp Z<|aa Z<|z6<|zk<|yd (γ:=Nat) [46,47] (fun k=>[(48,.int .i64 k),(3,.int .i64 (wV f.vars+pd (f.blocks.take k):Nat))]) (fun k=>[]) (fun k=>k≤f.blocks.length∧(0<k→wV f.vars+pd (f.blocks.take k)≤4000)∧pd (f.blocks.take k)≤4000∧∀b∈f.blocks.take k,qL b) (fun k=>f.blocks.length - k) 0 dX aS (⟨qr _,by omega,by simp[pd],by simp⟩) ?_
    rintro k ⟨hk,hw2,hw3,hb⟩
    refine ao<|ay Z Z<|z6<|zb<|zp Z (fun ck=>?_) (fun ck=>?_)
    ·have hk1:k<f.blocks.length:=by omega
     obtain ⟨hb1,hb2,hb3,hb4⟩:=hf4 _ (qs hk1)
     have hs:=oe hk1
     refine zg<|zb<|zk<|ao<|z8 (q8 jp ju Z Z Z (qo (by omega)))<|ac Y0 ju Z Z<|zz (cs:=[.str ⟨#[]⟩,.raw (.slice none 0 0),.raw (.slice none 0 0),.int .i64 0,.int .i64 0,.int .i64 0,.int .i64 0]) Ze Z Z<|fun i7=>zx ju Z Z Z Z Z Z .head Z<|z6<|zb<|zb<|yp (γ:=Unit) [3,7,46,47,48] (fun u=>[(67,.bool (uX f.blocks[k]))]) (fun u=>[(i7,.cells 62 (bc f.blocks[k]))]) (fun u=>True) ?_ (fun _ _ h=>h) ?_
     ·refine bj<|z8 (za j9 Z Zg (by decide) Z Z)<|z8 (zd (c:=.str _) Zn Z ⟨_,.head⟩ Z)<|z8 (Gv.lenT Zd Z)<|z8 (q3 Z Z)<|ah Z<|zm (s:=56) Z (fun c3=>?_) (fun c3=>?_)
      ·refine z2 Z Z c3<|z2 Z Z c3<|z2 Z Z c3<|z2 Z Z c3<|ap Z c3 Z<|ah Z<|z2 Z Z Z<|z2 Z Z Z<|z2 Z Z Z<|z2 Z Z Z<|ap Z Z Z<|z6 ?_
       exact ⟨(),qJ,⟨jb (by simp_all[uX]<;>grind),trivial⟩,aS,trivial⟩
      ·refine z7 Z Z c3<|z8 (za j9 Z Zq (by decide) Z Z)<|z7 Z Z c3<|z8 (zd (c:=.fro _ _) Y8 Z ⟨_,.head⟩ Z)<|z7 Z Z c3<|aj jy Z<|z7 Z Z c3<|z8 (q3 Z Z)<|aq Z c3 Z<|ah Z<|zm (s:=62) Z (fun c4=>?_) (fun c4=>?_)
       ·refine z2 Z Z c4<|z2 Z Z c4<|z2 Z Z c4<|z2 Z Z c4<|ap Z c4 Z<|z6 ?_
        exact ⟨(),qJ,⟨jb (by simp_all[uX]<;>grind),trivial⟩,aS,trivial⟩
       ·refine z7 Z Z c4<|z8 (za j9 Z jw (by decide) Z Z)<|z7 Z Z c4<|z8 (zd (c:=.fro _ _) Zb Z ⟨_,.head⟩ Z)<|z7 Z Z c4<|aj jm Z<|z7 Z Z c4<|z8 (q3 Z Z)<|aq Z c4 Z<|z6 ?_
        exact ⟨(),qJ,⟨jb (by simp_all[uX]<;>grind),trivial⟩,aS,trivial⟩
     ·rintro _ _
      refine zw Z (fun c2=>?_) (fun c2=>?_)
      ·refine ao<|ab Z<|z6<|ze<|zi (x:=.bool _) Z ?_
       exact ⟨_,rfl,fun h=>(by cases h),fun hl=>absurd hl (fun hl=>by obtain ⟨h1,h2,h3,_⟩:=hl.2.2.2.2.1 _ (qs hk1);unfold uX at c2;simp at c2;omega)⟩
      ·have hsb:f.blocks[k].name.size≤400∧f.blocks[k].phis.length≤400∧f.blocks[k].insts.length≤400:=by unfold uX at c2;simp at c2;omega
       refine zg<|ao<|aa Z<|z8 (za j9 Z Zg (by decide) Z Z)<|z8 (zd (c:=.str _) Zn Z ⟨_,.head⟩ Z)<|z8 (Gv.lenT Zd Z)<|z8 (za j9 Z Zq (by decide) Z Z)<|z8 (zd (c:=.fro _ _) Y8 Z ⟨_,.head⟩ Z)<|aj jy Z<|z8 (za j9 Z jw (by decide) Z Z)<|z8 (zd (c:=.fro _ _) Zb Z ⟨_,.head⟩ Z)<|aj jm Z<|aF Z Z<|z8 (Gv.mul Z Z (by unfold ft;omega))<|aF Z Z<|aF Z Z<|ax Z<|z6<|zb<|ao<|z8 (za j9 Z Zq (by decide) Z Z)<|z8 (zd (c:=.fro _ _) Y8 Z ⟨_,.head⟩ Z)<|aj jy Z<|aa Z<|z6<|zk<|yd (γ:=Nat) [7,46,47,48,83,84] (fun m=>[(85,.int .i64 m),(3,.int .i64 (wV f.vars+pd (f.blocks.take k)+(f.blocks[k].name.size+10*(f.blocks[k].phis.length+f.blocks[k].insts.length))+wP (f.blocks[k].phis.take m):Nat))]) (fun m=>[(i7,.cells 62 (bc f.blocks[k]))]) (fun m=>m≤f.blocks[k].phis.length∧wP (f.blocks[k].phis.take m)≤800*m∧∀p∈f.blocks[k].phis.take m,p.args.length≤400∧p.from_.length≤400) (fun m=>f.blocks[k].phis.length - m) 0 ⟨Z,(congrArg (AV.int .i64) (by simp[wP]<;>omega)),trivial⟩ aS (⟨qr _,by simp[wP],by simp⟩) ?_
       rintro m ⟨hm,hwp,hp⟩
       refine ao<|ay Z Z<|z6<|zb<|zp Z (fun cm=>?_) (fun cm=>?_)
       ·have hm1:m<f.blocks[k].phis.length:=by omega
        obtain ⟨hq1,hq2⟩:=hb3 _ (qs hm1)
        have hl6:=hq1.lt
        have hl7:=hq2.lt
        have hs2:=yW hm1
        refine zg<|zb<|zk<|ao<|z8 (q8 jy Za Z Z Z (qo (by omega)))<|ac isAgg77 Za Z Z<|zz (cs:=[.int .i64 0,.raw (.slice none 0 0),.raw (.slice none 0 0)]) Zy Z Z<|fun i9=>zx Za Z Z Z Z Z Z .head Z<|z6<|zb<|zb<|yp (γ:=Unit) [3,7,9,46,47,48,83,84,85] (fun u=>[(102,.bool (decide ((4000:Int)<(wV f.vars+pd (f.blocks.take k)+(f.blocks[k].name.size+10*(f.blocks[k].phis.length+f.blocks[k].insts.length))+wP (f.blocks[k].phis.take m):Nat))||(decide ((400:Int)<f.blocks[k].phis[m].args.length)||decide ((400:Int)<f.blocks[k].phis[m].from_.length))))]) (fun u=>[(i9,.cells 77 (bD f.blocks[k].phis[m])),(i7,.cells 62 (bc f.blocks[k]))]) (fun u=>True) ?_ (fun _ _ h=>h) ?_
        ·refine bj<|aa Z<|z8 (q3 Z Z)<|ah Z<|zm (s:=91) Z (fun c5=>?_) (fun c5=>?_)
         ·refine z2 Z Z c5<|z2 Z Z c5<|z2 Z Z c5<|z2 Z Z c5<|ap Z c5 Z<|ah Z<|z2 Z Z Z<|z2 Z Z Z<|z2 Z Z Z<|z2 Z Z Z<|ap Z Z Z<|z6 ?_
          exact ⟨(),⟨rfl,rfl,rfl,rfl,rfl,rfl,rfl,rfl,rfl,trivial⟩,⟨jb (by simp_all<;>grind),trivial⟩,aS,trivial⟩
         ·refine z7 Z Z c5<|z8 (za jr Z jn (by decide) Z Z)<|z7 Z Z c5<|z8 (zd (c:=.fro _ _) js Z ⟨_,.head⟩ Z)<|z7 Z Z c5<|aj j6 Z<|z7 Z Z c5<|z8 (q3 Z Z)<|aq Z c5 Z<|ah Z<|zm (s:=97) Z (fun c6=>?_) (fun c6=>?_)
          ·refine z2 Z Z c6<|z2 Z Z c6<|z2 Z Z c6<|z2 Z Z c6<|ap Z c6 Z<|z6 ?_
           exact ⟨(),⟨rfl,rfl,rfl,rfl,rfl,rfl,rfl,rfl,rfl,trivial⟩,⟨jb (by simp_all<;>grind),trivial⟩,aS,trivial⟩
          ·refine z7 Z Z c6<|z8 (za jr Z jn (by decide) Z Z)<|z7 Z Z c6<|z8 (zd (c:=.fro _ _) js Z ⟨_,.head⟩ Z)<|z7 Z Z c6<|aj j6 Z<|z7 Z Z c6<|z8 (q3 Z Z)<|aq Z c6 Z<|z6 ?_
           exact ⟨(),⟨rfl,rfl,rfl,rfl,rfl,rfl,rfl,rfl,rfl,trivial⟩,⟨jb (by simp_all<;>grind),trivial⟩,aS,trivial⟩
        ·rintro _ _
         refine zw Z (fun cp=>?_) (fun cp=>?_)
         ·refine ao<|ab Z<|z6<|ze<|zi (x:=.bool _) Z ?_
          exact ⟨_,rfl,fun h=>(by cases h),fun hl=>absurd hl (fun hl=>by obtain ⟨_,_,_,h4,_⟩:=hl.2.2.2.2.1 _ (qs hk1);have h5:=h4 _ (qs hm1);have h9:=iH hl hk1;have hwb:wB f.blocks[k]=f.blocks[k].name.size+10*(f.blocks[k].phis.length+f.blocks[k].insts.length)+wP f.blocks[k].phis+wX f.blocks[k].insts:=rfl;have h10:=zX f.blocks[k].phis m;simp only[Bool.or_eq_true,decide_eq_true_eq] at cp;omega)⟩
         ·rcases Bool.or_eq_false_iff.1 cp with ⟨a1,a2⟩
          rcases Bool.or_eq_false_iff.1 a2 with ⟨a3,a4⟩
          have a3:=of_decide_eq_false a3
          have a4:=of_decide_eq_false a4
          refine zg<|bj<|aa Z<|z8 (za jr Z jn (by decide) Z Z)<|z8 (zd (c:=.fro _ _) js Z ⟨_,.head⟩ Z)<|aj j6 Z<|z8 (za jr Z jn (by decide) Z Z)<|z8 (zd (c:=.fro _ _) js Z ⟨_,.head⟩ Z)<|aj j6 Z<|aF Z Z<|aF Z Z<|ax Z<|z6<|bj<|aF Z Z<|aa Z<|z6 ?_
          exact ⟨m+1,oY,⟨rfl,congrArg (AV.int .i64) (by rw[hs2];omega),trivial⟩,⟨_,(.drop (.refl _)),rfl⟩,⟨hm1,by omega,cX hm1 hp ⟨by omega,by omega⟩⟩,by omega⟩
       ·obtain rfl:m=f.blocks[k].phis.length:=by omega
        rw[qt] at hwp hp
        rw[qt]
        refine yc<|zb<|ao<|z8 (za j9 Z jw (by decide) Z Z)<|z8 (zd (c:=.fro _ _) Zb Z ⟨_,.head⟩ Z)<|aj jm Z<|aa Z<|z6<|zk<|yd (γ:=Nat) [46,47,48,114,115] (fun m=>[(116,.int .i64 m),(3,.int .i64 (wV f.vars+pd (f.blocks.take k)+(f.blocks[k].name.size+10*(f.blocks[k].phis.length+f.blocks[k].insts.length))+wP f.blocks[k].phis+wX (f.blocks[k].insts.take m):Nat))]) (fun m=>[(i7,.cells 62 (bc f.blocks[k]))]) (fun m=>m≤f.blocks[k].insts.length∧wX (f.blocks[k].insts.take m)≤400*m∧∀p∈f.blocks[k].insts.take m,p.args.length≤400) (fun m=>f.blocks[k].insts.length - m) 0 ⟨Z,(congrArg (AV.int .i64) (by simp[wX]<;>omega)),trivial⟩ aS (⟨qr _,by simp[wX],by simp⟩) ?_
        rintro m ⟨hm,hwx,hx⟩
        refine ao<|ay Z Z<|z6<|zb<|zp Z (fun cm=>?_) (fun cm=>?_)
        ·have hm1:m<f.blocks[k].insts.length:=by omega
         have hq1:=hb4 _ (qs hm1)
         have hl6:=hq1.lt
         have hs2:=yX hm1
         refine zg<|zb<|zk<|ao<|z8 (q8 jm jv Z Z Z (qo (by omega)))<|ac Zr jv Z Z<|zz (cs:=[.int .i64 0,.int .i64 0,.raw (.slice none 0 0),.int .i64 0]) Zs Z Z<|fun i11=>zx jv Z Z Z Z Z Z .head Z<|z6<|zb<|zb<|yp (γ:=Unit) [3,11,46,47,48,114,115,116] (fun u=>[(127,.bool (decide ((4000:Int)<(wV f.vars+pd (f.blocks.take k)+(f.blocks[k].name.size+10*(f.blocks[k].phis.length+f.blocks[k].insts.length))+wP f.blocks[k].phis+wX (f.blocks[k].insts.take m):Nat))||decide ((400:Int)<f.blocks[k].insts[m].args.length)))]) (fun u=>[(i11,.cells 67 (bf f.blocks[k].insts[m])),(i7,.cells 62 (bc f.blocks[k]))]) (fun u=>True) ?_ (fun _ _ h=>h) ?_
         ·refine bj<|aa Z<|z8 (q3 Z Z)<|ah Z<|zm (s:=122) Z (fun c7=>?_) (fun c7=>?_)
          ·refine z2 Z Z c7<|z2 Z Z c7<|z2 Z Z c7<|z2 Z Z c7<|ap Z c7 Z<|z6 ?_
           exact ⟨(),oZ,⟨jb (by simp_all<;>grind),trivial⟩,aS,trivial⟩
          ·refine z7 Z Z c7<|z8 (za jd Z jn (by decide) Z Z)<|z7 Z Z c7<|z8 (zd (c:=.fro _ _) js Z ⟨_,.head⟩ Z)<|z7 Z Z c7<|aj j6 Z<|z7 Z Z c7<|z8 (q3 Z Z)<|aq Z c7 Z<|z6 ?_
           exact ⟨(),oZ,⟨jb (by simp_all<;>grind),trivial⟩,aS,trivial⟩
         ·rintro _ _
          refine zw Z (fun cp=>?_) (fun cp=>?_)
          ·refine ao<|ab Z<|z6<|ze<|zi (x:=.bool _) Z ?_
           exact ⟨_,rfl,fun h=>(by cases h),fun hl=>absurd hl (fun hl=>by obtain ⟨_,_,_,_,h4⟩:=hl.2.2.2.2.1 _ (qs hk1);have h5:=h4 _ (qs hm1);have h9:=iH hl hk1;have hwb:wB f.blocks[k]=f.blocks[k].name.size+10*(f.blocks[k].phis.length+f.blocks[k].insts.length)+wP f.blocks[k].phis+wX f.blocks[k].insts:=rfl;have h10:=zY f.blocks[k].insts m;simp only[Bool.or_eq_true,decide_eq_true_eq] at cp;omega)⟩
          ·rcases Bool.or_eq_false_iff.1 cp with ⟨a1,a2⟩
           have a2:=of_decide_eq_false a2
           refine zg<|bj<|aa Z<|z8 (za jd Z jn (by decide) Z Z)<|z8 (zd (c:=.fro _ _) js Z ⟨_,.head⟩ Z)<|aj j6 Z<|aF Z Z<|ax Z<|z6<|bj<|aF Z Z<|aa Z<|z6 ?_
           exact ⟨m+1,qJ,⟨rfl,congrArg (AV.int .i64) (by rw[hs2];omega),trivial⟩,⟨_,(.drop (.refl _)),rfl⟩,⟨hm1,by omega,cX hm1 hx (by omega)⟩,by omega⟩
        ·obtain rfl:m=f.blocks[k].insts.length:=by omega
         rw[qt] at hwx hx
         rw[qt]
         refine yc<|ao<|aa Z<|z8 (q3 Z Z)<|z6<|zp Z (fun cz=>?_) (fun cz=>?_)
         ·refine ao<|ab Z<|z6<|ze<|zi (x:=.bool _) Z ?_
          exact ⟨_,rfl,fun h=>(by cases h),fun hl=>absurd hl (fun hl=>by have h9:=iH hl hk1;have hwb:wB f.blocks[k]=f.blocks[k].name.size+10*(f.blocks[k].phis.length+f.blocks[k].insts.length)+wP f.blocks[k].phis+wX f.blocks[k].insts:=rfl;omega)⟩
         ·have hwb:wB f.blocks[k]=f.blocks[k].name.size+10*(f.blocks[k].phis.length+f.blocks[k].insts.length)+wP f.blocks[k].phis+wX f.blocks[k].insts:=rfl
          refine zg<|bj<|aF Z Z<|aa Z<|z6 ?_
          exact ⟨k+1,dX,⟨rfl,congrArg (AV.int .i64) (by rw[hs];omega),trivial⟩,⟨_,(.drop (.refl _)),rfl⟩,⟨hk1,by omega,by omega,cX hk1 hb ⟨hsb.1,hsb.2.1,hsb.2.2,hp,hx⟩⟩,by omega⟩
    ·obtain rfl:k=f.blocks.length:=by omega
     rw[qt] at hw2 hw3 hb
     refine yc<|ao<|ab Z<|z6<|ze<|zi (x:=.bool _) Z ?_
     exact ⟨_,rfl,fun _=>⟨hsz.1,hsz.2.1,hsz.2.2,hv,hb,fun hne=>hw2 (List.length_pos_iff.2 hne)⟩,fun _=>rfl⟩
theorem jQ (f:ai) (hf:mX f) (hn:gY f) (hL:ae E):aV prog E 27 [.agg (bW f)] (.bool (decide (b5 f))):=by
 refine zr func27 Z (by decide) Z<|ao<|yf (cs:=_) Z Z Z<|ab Z<|z6<|ao<|ac jq jl Z Z<|zh (kS _ (by assumption) (by assumption) hL) Z<|ab Z<|z6<|ze<|zi (x:=.bool _) Z ?_
 rfl
noncomputable def vl (f:ai):Bool:=@decide (iE f) (Classical.propDecidable _)
theorem ly (f:ai):vl f=true↔iE f:=by unfold vl;exact @decide_eq_true_iff _ (Classical.propDecidable _)
theorem vm (f:ai) (hf:og f):aV prog E 6 [.agg (bW f)] (.bool (vl f)):=
 (oz f hf).mono fun x O' ⟨b,e,h⟩=>by
  rw[e]
  congr 1
  rw[Bool.eq_iff_iff,h,ly]
theorem ge (f:ai) (hf:small f) (hL:ae E):aV prog E 15 [.agg (bW f)] (.bool (cK f)):=by
 have hs:=jQ (E:=E) f hf.ok hf.names hL
 refine zr func15 Z (by decide) Z<|ao<|yf (cs:=_) Z Z Z<|ab Z<|z6<|ao<|ac jq jl Z Z<|zh (hs) Z ?_
 by_cases g4:b5 f
 ·refine ah Z<|z7 Z Z (qx g4)<|ac jq jl Z Z<|z7 Z Z (qx g4)<|zh (mb f hf g4) Z<|z8 (yS Z (qx g4) Z)<|ab Z<|z6<|ze<|zi (x:=.bool _) Z ?_
  exact jb (by unfold cK;rw[eD,qx g4];rfl)
 ·refine ah Z<|z2 Z Z (qy g4)<|z2 Z Z (qy g4)<|z8 (yT Z (qy g4) Z)<|ab Z<|z6<|ze<|zi (x:=.bool _) Z ?_
  exact jb (by unfold cK;rw[eD,qy g4];rfl)
theorem mc (f:ai) (hw:og f) (hL:ae E):aV prog E 9 [.agg (bW f)] (.bool (vl f&&cK f)):=by
 refine zr func9 Z (by decide) Z<|ao<|yf (cs:=_) Z Z Z<|ab Z<|z6<|ao<|ac jq jl Z Z<|zh (vm f hw) Z<|ah Z<|zm (s:=5) Z (fun g=>?_) (fun g=>?_)
 ·refine z7 Z Z g<|ac jq jl Z Z<|z7 Z Z g<|zh (ge f ((ly f).1 g).small hL) Z<|ap Z g Z<|ab Z<|z6<|ze<|zi (x:=.bool _) Z ?_
  exact jb (by rw[g];rfl)
 ·refine z2 Z Z g<|z2 Z Z g<|aq Z g Z<|ab Z<|z6<|ze<|zi (x:=.bool _) Z ?_
  exact jb (by rw[g];rfl)
end
section
open Go.Proofs.Tryz
end
section
open Go.Proofs.Tryz
open Go.Proofs Go.Lib Go.Shelf Go.RowKit
variable {E:World}
set_option maxRecDepth 20000
theorem gM (op:Int):aV prog E 25 [.int .i64 op] (.bool (decide (18≤op)&&decide (op≤24))):=by
 refine zr func25 Z (by decide) Z<|ao<|ab Z<|z6<|ao<|aa Z<|z8 (qg Z Z)<|ah Z<|zm (s:=5) Z (fun c1=>?_) (fun c1=>?_)
 ·refine z7 Z Z c1<|aa Z<|z7 Z Z c1<|z8 (Gv.leq Z Z)<|ap Z c1 Z<|ab Z<|z6<|ze<|zi (x:=.bool _) Z ?_
  exact jb (by simp_all<;>omega)
 ·refine z2 Z Z c1<|z2 Z Z c1<|aq Z c1 Z<|ab Z<|z6<|ze<|zi (x:=.bool _) Z ?_
  exact jb (by simp_all<;>omega)
end
section
open Go.Proofs.Tryz
open Go.Proofs Go.Lib Go.Shelf Go.RowKit
variable {E:World}
set_option maxRecDepth 20000
end
section
open Go.Proofs.Tryz
open Go.Proofs Go.Lib Go.Shelf Go.RowKit
variable {E:World}
set_option maxRecDepth 20000
theorem gf (op:Int) (h:0≤op∧op≤26):aV prog E 18 [.int .i64 op] (.int .i64 (if 18≤op∧op≤24 then op - 17 else 0)):=by
 refine zr func18 Z (by decide) Z<|ao<|ax Z<|z6<|zb<|ao<|aa Z<|ay Z Z<|ah Z<|zm (s:=5) Z (fun c1=>?_) (fun c1=>?_)
 ·have h1:op<18:=by simpa using c1
  refine z2 Z Z c1<|z2 Z Z c1<|ap Z c1 Z<|z6<|yq Z Z<|ao<|ax Z<|z6<|ze<|zi (x:=.int _ _) Z ?_
  rw[if_neg (by omega)]
 ·have h1:¬op<18:=by simpa using c1
  refine z7 Z Z c1<|aa Z<|z7 Z Z c1<|z8 (q3 Z Z)<|aq Z c1 Z<|z6<|zw Z (fun c2=>?_) (fun c2=>?_)
  ·have h2:24<op:=by simpa using c2
   refine ao<|ax Z<|z6<|ze<|zi (x:=.int _ _) Z ?_
   rw[if_neg (by omega)]
  ·have h2:¬24<op:=by simpa using c2
   refine zg<|ao<|aa Z<|z8 (qn Z Z (by unfold ft;omega))<|ax Z<|z6<|ze<|zi (x:=.int _ _) Z ?_
   rw[if_pos (by omega)]
end
section
open Go.Proofs.Tryz
variable {α:Type}
def mg (k:Int):List (Int × List α)→List α
 |[]=>[]
 |(k',r)::es=>if k=k' then r else mg k es
def ms (k:Int) (r:List α):List (Int × List α)→List (Int × List α)
 |[]=>[(k,r)]
 |(k',r')::es=>if k=k' then (k,r)::es else (k',r')::ms k r es
def kv (k:Int):Value:=.int .i64 k
section
variable {E:World} {P:Program} {ops:Array Oper} {K:aH→OL→Prop} {env:aH} {O O' O'':OL} {rest:List Oper} {n:Nat}
variable {d ty:Nat} {pos:String} {af:Array Edge} {x y z:Operand} {t u e T kt:TypeId} {b:Nat}
end
end
section
open Go.Proofs.Tryz
open Go.Proofs
section
variable {E:World} {P:Program} {ops:Array Oper} {K:aH→OL→Prop} {env:aH} {O O' O'':OL} {rest:List Oper} {n:Nat}
variable {d ty:Nat} {pos:String} {af:Array Edge} {x y z:Operand} {t u e T:TypeId}
end
end
section
open Go.Proofs.Tryz
open Go.Proofs
end
section
open Go.Proofs.Tryz
open Go.Proofs
theorem ak.storeGN {E:World} {P:Program} {ops:Array Oper} {K:aH→OL→Prop} {env:aH} {O O':OL} {rest:List Oper} {ty:Nat} {pos:String} {af:Array Edge} {x y:Operand} {t:TypeId} {i off k:Nat} {T:TypeId} {v:AV} {cs new:List AV} (hs:∀w,(sizeOf t).run P w=.ok 1 w) (hx:aU env x=.po i off) (hy:aU env y=v) (hv:v.sto=true) (hl:v.cs=[v]) (hl1:v.cell=true)
  (hO:eh O i (.grow k T cs) (.grow k T new) O') (hb:off<cs.length) (hnew:cs.set off v=new) (kk:ak P E ops K rest env O'):ak P E ops K (Oper.mk none (.store t x y) ty pos af none::rest) env O:=by
 subst hnew;exact ak.storeG1 hs hx hy hv hl hl1 hO hb kk
end
section
open Go.Proofs.Tryz
open Go.Proofs
section
variable {I J:G} {L:List (Nat × Obj)} {O O':OL} {i k m:Nat} {T:TypeId}
end
end
section
open Go.Proofs.Tryz
def ag (k:Int):List (Int × AV)→Option AV
 |[]=>none
 |(k',x)::es=>if k=k' then some x else ag k es
def am (k:Int) (x:AV):List (Int × AV)→List (Int × AV)
 |[]=>[(k,x)]
 |(k',x')::es=>if k=k' then (k,x)::es else (k',x')::am k x es
section
variable {E:World} {P:Program} {ops:Array Oper} {K:aH→OL→Prop} {env:aH} {O O' O'':OL} {rest:List Oper} {n:Nat}
variable {d ty:Nat} {pos:String} {af:Array Edge} {x y z:Operand} {t u e T kt:TypeId} {b:Nat}
end
end
section
open Go.Proofs.Tryz
open Go.Proofs
theorem dq.up {env e:aH} {d:Nat} {v:AV}:∀{f:List Nat},f.all (fun t=>!Nat.beq t d)=true→dq env e f→dq env (bz e d v) f
 |[],_,_=>trivial
 |t::f,h,⟨h1,h2⟩=>by
  rw[List.all_cons,qz] at h
  refine ⟨?_,dq.up h.2 h2⟩
  unfold bz
  have h3:Nat.beq t d=false:=by simpa using h.1
  rw[h3];exact h1
end
section
open Go.Proofs.Tryz
open Go.Proofs
end
section
open Go.Proofs.Tryz
open Go.Proofs Go.Lib Go.Shelf Go.RowKit
theorem wK:dc prog 33 35 1 2 [.int .i64 0,.int .i64 0]:=⟨_,Y6,Z4,zeroValue35,by decide,by decide,by kernel_rfl⟩
variable {E:World}
set_option maxRecDepth 20000
def fN (z:Int × Int):List AV:=[.int .i64 z.1,.int .i64 z.2]
theorem ng:∀l:List aD,bQ l≤l.length
 |[]=>Nat.le_refl _
 |x::l=>by
  have:=ng l
  unfold bQ qZ
  rw[List.length_cons]
  split<;>omega
theorem zZ {l:List aI} (h:∀b∈l,b.insts.length≤1000):(l.map fun b=>bQ b.insts).sum≤l.length*1000:=by
 induction l with
 |nil=>exact Nat.le_refl _
 |cons b l ih=>
  have h1:=h b (.head _)
  have h2:=ng b.insts
  have h3:=ih fun c hc=>h c (.tail _ hc)
  rw[List.map_cons,List.sum_cons,List.length_cons,Nat.add_mul]
  omega
theorem hZ {f:ai} (hf:small f) (k:Nat):(pA 0 (f.blocks.take k)).length≤1000000:=by
 rw[wF]
 have h1:=zZ (l:=f.blocks.take k) fun b hb=>(hf.2.2.2.2 b (List.mem_of_mem_take hb)).2.2.1
 have h2:(f.blocks.take k).length≤f.blocks.length:=by rw[qw];omega
 have h3:=hf.2.2.1
 have:(f.blocks.take k).length*1000≤1000*1000:=Nat.mul_le_mul_right _ (by omega)
 omega
theorem oA {f:ai} (hf:small f) {b:aI} (hb:b∈f.blocks) (i m:Nat):(pB i 0 (b.insts.take m)).length≤1000:=by
 rw[gL]
 have h1:=ng (b.insts.take m)
 have h2:=(hf.2.2.2.2 b hb).2.2.1
 have h3:(b.insts.take m).length≤b.insts.length:=by rw[qw];omega
 omega
def mG (f:ai) (k m:Nat) (b:aI):List (Int × Int):=pA 0 (f.blocks.take k)++pB k 0 (b.insts.take m)
theorem ic {f:ai} {k:Nat} {b:aI}:mG f k 0 b=pA 0 (f.blocks.take k):=by unfold mG;rw[List.take_zero];exact List.append_nil _
theorem kh {f:ai} {k m:Nat} {b:aI} {x:aD} (hx:b.insts[m]?=some x) (h:gK x=true):mG f k (m+1) b=mG f k m b++[((k:Int),(m:Int))]:=by unfold mG;rw[ri hx,if_pos h,qq]
theorem nh {f:ai} {k m:Nat} {b:aI} {x:aD} (hx:b.insts[m]?=some x) (h:gK x=false):mG f k (m+1) b=mG f k m b:=by unfold mG;rw[ri hx,if_neg (by rw[h];decide),List.append_nil]
theorem ki {f:ai} {k:Nat} {b:aI} (h:f.blocks[k]?=some b):mG f k b.insts.length b=pA 0 (f.blocks.take (k+1)):=by unfold mG;rw[qt,zV h]
theorem rj (l:List (Int × Int)):((l.map fN).flatten).length=l.length*2:=dC (k:=2) (fun _=>rfl) l
theorem rk (l:List (Int × Int)) (z:Int × Int):(((l++[z]).map fN).flatten)=((l.map fN).flatten)++fN z:=by rw[List.map_append,List.flatten_append];simp
set_option maxHeartbeats 4000000 in
theorem nj (f:ai) (hf:small f) (hL:ae E) (ht:cK f=true):aV prog E 8 [.agg (bW f)] (.fro 2 ((pA 0 f.blocks).map fN)):=by
 have hty:=lj (E:=E) f hf hL
 rw[if_pos ht] at hty
 have hnb:=hf.2.2.1
 refine zr func8 Z (by decide) Z<|ao<|yf (cs:=_) Z Z Z<|z8 (uR Z)<|z6<|zb<|ao<|ac jq jl Z Z<|zh (hty) Z<|z8 (yl Z Z)<|z6<|yv Z Z<|zg<|ao<|z8 (uR Z)<|z6<|e9 (t:=3) (k:=2) (T:=35) Z<|fun i3=>zb<|ao<|aw jj Z Z6 Z Z<|aT Zk Z<|aj jp Z<|aa Z<|z6<|zk<|yd (γ:=Nat × Nat) [12,13] (fun g=>[(14,.int .i64 g.1),(3,.own g.2 (pA 0 (f.blocks.take g.1)).length)]) (fun g=>[(g.2,.grow 2 35 ((pA 0 (f.blocks.take g.1)).map fN).flatten)]) (fun g=>g.1≤f.blocks.length) (fun g=>f.blocks.length - g.1) (0,i3) dX aS (qr _) ?_
 rintro ⟨k,ia⟩ hk
 try dsimp only at *
 refine ao<|ay Z Z<|z6<|zb<|zp Z (fun ck=>?_) (fun ck=>?_)
 ·have hk2:k<f.blocks.length:=by simp at ck;omega
  obtain ⟨b,hb⟩:∃b,f.blocks[k]?=some b:=⟨_,qo hk2⟩
  have hbm:=qv hb
  have hs1:=hZ hf k
  have hbl:=(hf.2.2.2.2 b hbm).2.2.1
  refine zg<|zb<|zk<|ao<|aa Z<|z8 (dj k jp ju Z Z Z hb)<|ac Y0 ju Z Z<|zz (cs:=[.str ⟨#[]⟩,.raw (.slice none 0 0),.raw (.slice none 0 0),.int .i64 0,.int .i64 0,.int .i64 0,.int .i64 0]) Ze Z Z<|fun i5=>ax Z<|zx ju Z Z Z Z Z Z .head Z<|z6<|zy (yo (t:=5) Z .head)<|ao<|aw j9 Z jw Z Z<|aT Zb Z<|aj jm Z<|aa Z<|z6<|zk<|yd (γ:=Nat × Nat) [4,12,13,14,20,21] (fun g=>[(22,.int .i64 g.1),(3,.own g.2 (mG f k g.1 b).length)]) (fun g=>[(g.2,.grow 2 35 ((mG f k g.1 b).map fN).flatten)]) (fun g=>g.1≤b.insts.length) (fun g=>b.insts.length - g.1) (0,ia) ⟨Z,by rw[ic]<;>rfl,trivial⟩ ⟨_,(.refl _),by rw[ic]<;>rfl⟩ (qr _) ?_
  rintro ⟨m,ia⟩ hm
  try dsimp only at *
  have hs2:=oA hf hbm k m
  have hfl:=rj (mG f k m b)
  have hpl:(mG f k m b).length≤2000000:=by unfold mG;rw[qu];omega
  refine ao<|ay Z Z<|z6<|zb<|zp Z (fun cm=>?_) (fun cm=>?_)
  ·have hm2:m<b.insts.length:=by simp at cm;omega
   obtain ⟨x,hx⟩:∃x,b.insts[m]?=some x:=⟨_,qo hm2⟩
   refine zg<|zb<|zk<|ao<|aa Z<|z8 (dj m jm jv Z Z Z hx)<|ac Zr jv Z Z<|zz (cs:=[.int .i64 0,.int .i64 0,.raw (.slice none 0 0),.int .i64 0]) Zs Z Z<|fun i7=>ax Z<|zx jv Z Z Z Z Z Z .head Z<|z6<|zy (yo (t:=7) Z .head)<|ao<|aw jd Z Z7 Z Z<|aN Zh Z<|zh (gM x.op) Z<|z6<|zw Z (fun cc=>?_) (fun cc=>?_)
   ·have cc:gK x=true:=cc
    refine bj<|z8 (wd Z)<|aa Z<|aa Z<|z8 (Gv.buildA (cps:=[(0,[_]),(1,[_])]) (rs:=[_,_]) we Z Z Z)<|yk (rows:=[[_,_]]) wK Z Z Z Z Z<|yt (k:=2) Y6 type35 Z Z Z Z Z (fun _=>.head) hfl (by decide) Z (by show (_+_)*16≤_;simp<;>omega) (by simp<;>omega)<|fun i35=>z8 (d6 Z)<|z6<|bj<|aF Z Z<|aa Z<|z6 ?_
    exact ⟨(m+1,i35),oY,⟨rfl,by rw[kh hx cc,qu]<;>rfl,trivial⟩,⟨_,(.refl _),by rw[kh hx cc,rk]<;>rfl⟩,hm2,by dsimp only;omega⟩
   ·have cc:gK x=false:=cc
    refine zg<|bj<|aF Z Z<|aa Z<|z6 ?_
    exact ⟨(m+1,ia),oY,⟨rfl,by rw[nh hx cc]<;>rfl,trivial⟩,⟨_,(.refl _),by rw[nh hx cc]<;>rfl⟩,hm2,by dsimp only;omega⟩
  ·obtain rfl:m=b.insts.length:=by simp at cm;omega
   refine yc<|bj<|aF Z Z<|aa Z<|z6 ?_
   exact ⟨(k+1,ia),dX,⟨rfl,by rw[ki hb]<;>rfl,trivial⟩,⟨_,(.refl _),by rw[ki hb]<;>rfl⟩,hk2,by dsimp only;omega⟩
 ·obtain rfl:k=f.blocks.length:=by simp at ck;omega
  rw[qt]
  refine zy (aZ.know (t:=3) (rows:=(pA 0 f.blocks).map fN) Z .head (by first|(intro r hr;obtain ⟨x,_,rfl⟩:=List.mem_map.1 hr;rfl)|simp[bS,bU,bD,bf,bc]) (by decide) (by simp))<|yc<|ao<|z8 (eR Z)<|z8 (BS Z)<|z6<|ze<|zi (x:=.fro _ _) Z ?_
  rfl
set_option maxHeartbeats 4000000 in
theorem ig (f:ai) (hf:small f) (hop:∀b∈f.blocks,∀x∈b.insts,0≤x.op∧x.op≤26):aV prog E 10 [.agg (bW f)] (.fro 2 ((pA 0 f.blocks).map fN)):=by
 have hnb:=hf.2.2.1
 refine zr func10 Z (by decide) Z<|ao<|yf (cs:=_) Z Z Z<|z8 (uR Z)<|z6<|ao<|z8 (uR Z)<|z6<|e9 (t:=3) (k:=2) (T:=35) Z<|fun i3=>zb<|ao<|aw jj Z Z6 Z Z<|aT Zk Z<|aj jp Z<|aa Z<|z6<|zk<|yd (γ:=Nat × Nat) [9,10] (fun g=>[(11,.int .i64 g.1),(3,.own g.2 (pA 0 (f.blocks.take g.1)).length)]) (fun g=>[(g.2,.grow 2 35 ((pA 0 (f.blocks.take g.1)).map fN).flatten)]) (fun g=>g.1≤f.blocks.length) (fun g=>f.blocks.length - g.1) (0,i3) dX aS (qr _) ?_
 rintro ⟨k,ia⟩ hk
 try dsimp only at *
 refine ao<|ay Z Z<|z6<|zb<|zp Z (fun ck=>?_) (fun ck=>?_)
 ·have hk2:k<f.blocks.length:=by simp at ck;omega
  obtain ⟨b,hb⟩:∃b,f.blocks[k]?=some b:=⟨_,qo hk2⟩
  have hbm:=qv hb
  have hs1:=hZ hf k
  have hbl:=(hf.2.2.2.2 b hbm).2.2.1
  refine zg<|zb<|zk<|ao<|aa Z<|z8 (dj k jp ju Z Z Z hb)<|ac Y0 ju Z Z<|zz (cs:=[.str ⟨#[]⟩,.raw (.slice none 0 0),.raw (.slice none 0 0),.int .i64 0,.int .i64 0,.int .i64 0,.int .i64 0]) Ze Z Z<|fun i5=>ax Z<|zx ju Z Z Z Z Z Z .head Z<|z6<|zy (yo (t:=5) Z .head)<|ao<|aw j9 Z jw Z Z<|aT Zb Z<|aj jm Z<|aa Z<|z6<|zk<|yd (γ:=Nat × Nat) [4,9,10,11,17,18] (fun g=>[(19,.int .i64 g.1),(3,.own g.2 (mG f k g.1 b).length)]) (fun g=>[(g.2,.grow 2 35 ((mG f k g.1 b).map fN).flatten)]) (fun g=>g.1≤b.insts.length) (fun g=>b.insts.length - g.1) (0,ia) ⟨Z,by rw[ic]<;>rfl,trivial⟩ ⟨_,(.refl _),by rw[ic]<;>rfl⟩ (qr _) ?_
  rintro ⟨m,ia⟩ hm
  try dsimp only at *
  have hs2:=oA hf hbm k m
  have hfl:=rj (mG f k m b)
  have hpl:(mG f k m b).length≤2000000:=by unfold mG;rw[qu];omega
  refine ao<|ay Z Z<|z6<|zb<|zp Z (fun cm=>?_) (fun cm=>?_)
  ·have hm2:m<b.insts.length:=by simp at cm;omega
   obtain ⟨x,hx⟩:∃x,b.insts[m]?=some x:=⟨_,qo hm2⟩
   refine zg<|zb<|zk<|ao<|aa Z<|z8 (dj m jm jv Z Z Z hx)<|ac Zr jv Z Z<|zz (cs:=[.int .i64 0,.int .i64 0,.raw (.slice none 0 0),.int .i64 0]) Zs Z Z<|fun i7=>ax Z<|zx jv Z Z Z Z Z Z .head Z<|z6<|zy (yo (t:=7) Z .head)<|ao<|aw jd Z Z7 Z Z<|aN Zh Z<|zh (gf x.op (hop b hbm x (qv hx))) Z<|z8 (q3 Z Z)<|z6<|zw Z (fun cc=>?_) (fun cc=>?_)
   ·have cc:gK x=true:=by
     unfold gK
     by_cases h:18≤x.op∧x.op≤24
     ·simp[h.1,h.2]
     ·rw[if_neg h] at cc;simp at cc
    refine bj<|z8 (wd Z)<|aa Z<|aa Z<|z8 (Gv.buildA (cps:=[(0,[_]),(1,[_])]) (rs:=[_,_]) we Z Z Z)<|yk (rows:=[[_,_]]) wK Z Z Z Z Z<|yt (k:=2) Y6 type35 Z Z Z Z Z (fun _=>.head) hfl (by decide) Z (by show (_+_)*16≤_;simp<;>omega) (by simp<;>omega)<|fun i33=>z8 (d6 Z)<|z6<|bj<|aF Z Z<|aa Z<|z6 ?_
    exact ⟨(m+1,i33),oY,⟨rfl,by rw[kh hx cc,qu]<;>rfl,trivial⟩,⟨_,(.refl _),by rw[kh hx cc,rk]<;>rfl⟩,hm2,by dsimp only;omega⟩
   ·have cc:gK x=false:=by
     unfold gK
     by_cases h:18≤x.op∧x.op≤24
     ·rw[if_pos h] at cc;simp at cc;omega
     ·simp;intro h2;omega
    refine zg<|bj<|aF Z Z<|aa Z<|z6 ?_
    exact ⟨(m+1,ia),oY,⟨rfl,by rw[nh hx cc]<;>rfl,trivial⟩,⟨_,(.refl _),by rw[nh hx cc]<;>rfl⟩,hm2,by dsimp only;omega⟩
  ·obtain rfl:m=b.insts.length:=by simp at cm;omega
   refine yc<|bj<|aF Z Z<|aa Z<|z6 ?_
   exact ⟨(k+1,ia),dX,⟨rfl,by rw[ki hb]<;>rfl,trivial⟩,⟨_,(.refl _),by rw[ki hb]<;>rfl⟩,hk2,by dsimp only;omega⟩
 ·obtain rfl:k=f.blocks.length:=by simp at ck;omega
  rw[qt]
  refine zy (aZ.know (t:=3) (rows:=(pA 0 f.blocks).map fN) Z .head (by first|(intro r hr;obtain ⟨x,_,rfl⟩:=List.mem_map.1 hr;rfl)|simp[bS,bU,bD,bf,bc]) (by decide) (by simp))<|yc<|ao<|z8 (eR Z)<|z8 (BS Z)<|z6<|ze<|zi (x:=.fro _ _) Z ?_
  rfl
theorem ij (f:ai) (hf:small f) (hop:∀b∈f.blocks,∀x∈b.insts,0≤x.op∧x.op≤26) (j m:Nat):aV prog E 17 [.agg (bW f),.int .i64 j,.int .i64 m] (.int .i64 (ff f j m)):=by
 have hs:=hZ hf f.blocks.length
 rw[qt] at hs
 refine zr func17 Z (by decide) Z<|ao<|yf (cs:=_) Z Z Z<|ax Z<|z6<|zb<|ao<|ac jq jl Z Z<|zh (ig f hf hop) Z<|aj Y6 Z<|aa Z<|z6<|zk<|yd (γ:=Nat) [1,2,10,11] (fun n=>[(12,.int .i64 n)]) (fun n=>[]) (fun n=>n≤(pA 0 f.blocks).length∧∀q:Nat,q<n→(pA 0 f.blocks)[q]?≠some ((j:Int),(m:Int))) (fun n=>(pA 0 f.blocks).length - n) 0 aY aS (⟨qr _,fun q h=>absurd h (Nat.not_lt_zero _)⟩) ?_
 rintro n ⟨hn,hno⟩
 refine ao<|ay Z Z<|z6<|zb<|zp Z (fun cn=>?_) (fun cn=>?_)
 ·have hn2:n<(pA 0 f.blocks).length:=by simp at cn;omega
  obtain ⟨z,hz⟩:∃z,(pA 0 f.blocks)[n]?=some z:=⟨_,qo hn2⟩
  refine zg<|zb<|zk<|ao<|aa Z<|z8 (dj n Y6 Z4 Z Z Z hz)<|ac isAgg35 Z4 Z Z<|zz (cs:=[.int .i64 0,.int .i64 0]) zeroValue35 Z Z<|fun i8=>ax Z<|zx Z4 Z Z Z Z Z Z .head Z<|z6<|zy (yo (t:=8) Z .head)<|ao<|ac isAgg35 Z4 Z Z<|aa Z<|aa Z<|z8 (Gv.buildA (cps:=[(0,[_]),(1,[_])]) (rs:=[_,_]) we Z Z Z)<|z8 (Gv.eqlP (xs:=[.int _ _,.int _ _]) (ys:=[.int _ _,.int _ _]) (by kernel_rfl) Z Z (fun w=>kP _ _ _ _ w))<|z6<|zw Z (fun ce=>?_) (fun ce=>?_)
  ·have ce:z=((j:Int),(m:Int)):=by obtain ⟨a,b⟩:=z;simpa using ce
   refine ao<|aa Z<|ax Z<|z6<|ze<|zi (x:=.int _ _) Z ?_
   rw[vg (by rw[hz,ce])]
  ·have ce:¬z=((j:Int),(m:Int)):=by obtain ⟨a,b⟩:=z;simpa using ce
   refine zg<|bj<|aF Z Z<|aa Z<|z6 ?_
   exact ⟨n+1,f0,aY,aS,⟨hn2,fun q hq=>by by_cases e:q=n;(subst e;rw[hz];exact fun h=>ce (Option.some.inj h));exact hno q (by omega)⟩,by omega⟩
 ·obtain rfl:n=(pA 0 f.blocks).length:=by simp at cn;omega
  have hmiss:ff f j m=-1:=pC fun q hq=>by
   have:=(List.getElem?_eq_some_iff.1 hq).1
   exact hno q this hq
  refine yc<|ao<|ax Z<|z6<|ze<|zi (x:=.int _ _) Z ?_
  rw[hmiss]
end
section
open Go.Proofs.Tryz
def Aa (X:OL):aW:=.heapG (fun I L=>∃L',bu I X L'∧L.Perm L') fun I J L h hp=>by obtain ⟨L',h1,h2⟩:=hp;exact ⟨L',h1.mono h,h2⟩
section
variable {E:World} {env:aH} {O O1 O':OL} {m i:Nat} {o:aW} {X X':OL}
theorem aZ.bagNew:aZ E env O env ((0,Aa [])::O):=fun I F ρ w h1 ⟨ht,L,hL,hS⟩=>⟨I,.refl _,h1,ht,L,⟨[],L,rfl,⟨[],rfl,.refl _⟩,hL⟩,hS⟩
theorem aZ.bagOut (hX:X.Perm ((i,o)::X')) (hO:eh O m (Aa X) (Aa X') O'):aZ E env O env ((i,o)::O'):=fun I F ρ w h1 ⟨ht,L,hL,hS⟩=>by
 obtain ⟨A,B,hp,⟨L',hA,hpA⟩,hback⟩:=hO.rep hL
 obtain ⟨L2,h2,h3⟩:=hA.perm hX
 obtain ⟨C,D,rfl,h4,h5⟩:=h2
 obtain ⟨L3,h6,h7⟩:=hback (G.le.refl I) (A':=D) ⟨D,h5,.refl _⟩
 refine ⟨I,.refl _,h1,ht,C++L3,⟨C,L3,Z,h4,h6⟩,hS.perm (List.Perm.append_right F ?_)⟩
 refine (h7.append_left C).trans ?_
 rw[←qq]
 exact (((hpA.trans h3).append_right B).symm).trans hp.symm
theorem aZ.bagIn (hP:cU O i o O1) (hX:((i,o)::X).Perm X') (hO:eh O1 m (Aa X) (Aa X') O'):aZ E env O env O':=fun I F ρ w h1 ⟨ht,L,hL,hS⟩=>by
 obtain ⟨A,B,hp,hA,hB⟩:=hP.rep hL
 obtain ⟨A2,B2,hp2,⟨L',h3,h4⟩,hback⟩:=hO.rep hB
 obtain ⟨L4,h5,h6⟩:=(show bu I ((i,o)::X) (A++L') from ⟨A,L',rfl,hA,h3⟩).perm hX
 obtain ⟨L5,h7,h8⟩:=hback (G.le.refl I) (A':=A++A2) ⟨L4,h5,(h4.append_left A).trans h6⟩
 refine ⟨I,.refl _,h1,ht,L5,h7,hS.perm (List.Perm.append_right F ?_)⟩
 refine h8.trans ?_
 rw[qq]
 exact ((hp2.append_left A).symm).trans hp.symm
end
theorem nk {α β γ:Type} (g:α→β→γ):∀(xs:List α) (ys:List β) (j:Nat) {a:α} {b:β},xs[j]?=some a→ys[j]?=some b→∃X,(List.zipWith g xs ys).Perm (g a b::X)∧∀a' b',(g a' b'::X).Perm (List.zipWith g (xs.set j a') (ys.set j b'))
 |[],_,j,_,_,h,_=>by simp at h
 |_::_,[],j,_,_,_,h=>by simp at h
 |x::xs,y::ys,0,a,b,h1,h2=>by
  simp at h1 h2
  subst h1 h2
  exact ⟨List.zipWith g xs ys,.refl _,fun _ _=>.refl _⟩
 |x::xs,y::ys,j+1,a,b,h1,h2=>by
  obtain ⟨X,h3,h4⟩:=nk g xs ys j (by simpa using h1) (by simpa using h2)
  refine ⟨g x y::X,(h3.cons _).trans (.swap _ _ _),fun a' b'=>?_⟩
  exact (List.Perm.swap _ _ _).trans ((h4 a' b').cons _)
theorem Ab {I J:G} {id k:Nat} {T:TypeId} {rows:List (List AV)} {L:List (Nat × Obj)} (hk:∀r∈rows,r.length=k) (hk0:0<k) (h:kG I (id,.grow k T rows.flatten) L) (hle:I.le J) (hJ:∀x∈L,J.k x.1=some x.2) {v:Value} (hv:bO I (.own id rows.length) v):bO J (.fro k rows) v:=by
 obtain ⟨b,c,n,vs,e1,hvs,hvc,hown⟩:=h
 simp only at e1
 have hflat:=n6 hk
 have hnm:n=rows.length:=by
  have h5:=hown.1
  have h6:=hvs.length
  have:n*k=rows.length*k:=by omega
  exact Nat.eq_of_mul_eq_mul_right hk0 this
 obtain ⟨b2,c2,e2,rfl⟩:=hv
 rw[e1] at e2
 simp only[Option.some.injEq,Prod.mk.injEq] at e2
 obtain ⟨rfl,rfl⟩:=e2
 obtain ⟨h5,h6,h7⟩:=hown
 rcases h7 with ⟨ea,rfl,rfl⟩|⟨b',junk,ea,rfl,hj⟩
 ·have h0:rows=[]:=List.eq_nil_of_length_eq_zero (by omega)
  subst h0
  exact ⟨mn b,0,0,rfl,rfl,Nat.le_refl _,fun _=>rfl,trivial⟩
 ·cases b with
  |none=>simp[mn] at ea
  |some b=>
   simp[mn] at ea
   subst ea
   have hb:=hJ _ (.head _)
   simp only at hb
   refine ⟨mn (some b),rows.length,c,Z,Z,by omega,fun h=>by simp[mn] at h,RepR.of_flat hb rows vs 0 hk (RepL.mono hle _ _ hvs) fun i u hu=>?_⟩
   rw[Nat.zero_mul,Nat.zero_add,List.getElem?_toArray,List.getElem?_append_left (List.getElem?_eq_some_iff.1 hu).1]
   exact hu
section
variable {E:World} {env:aH} {O O1 O':OL} {m i k:Nat} {T:TypeId} {cs cs':List AV} {X:OL}
end
end
section
open Go.Proofs.Tryz
end
section
open Go.Proofs.Tryz
section
variable {E:World} {P:Program} {n:Nat} {env:aH} {O O' O'':OL}
theorem eh.sameG {I J:G} {j off k2:Nat} {T:TypeId} {cs new:List AV} {x y:AV} (hle:I.le J) (hp:eh O j (.grow k2 T cs) (.grow k2 T new) O') (hc:cs[off]?=some x) (hnew:cs.set off y=new) (hxy:∀v,bO I x v→bO J y v)
  {L:List (Nat × Obj)} (hL:bu I O L):∃L',bu J O' L'∧L.Perm L':=by
 subst hnew
 obtain ⟨A,B,hp1,⟨b,c,n,vs,e1,hvs,hvc,hown⟩,hback⟩:=hp.rep hL
 obtain ⟨L',h1,h2⟩:=hback hle (A':=A) ⟨b,c,n,vs,hle.h _ _ e1,hvs.same hle hc hxy,hvc,hown⟩
 exact ⟨L',h1,hp1.trans h2.symm⟩
theorem vn {j off k k2:Nat} {T T':TypeId} {cs:List AV} {new:Nat→List AV} {c:Code} {Q:Exit→aH→OL→Prop} {f:Nat→OL} (hP:∀i,eh O j (.grow k2 T' cs) (.grow k2 T' (new i)) (f i)) (hnew:∀i,cs.set off (.own i 0)=new i) (hc:cs[off]?=some (.raw (.slice none 0 0)))
  (h:∀i,b9 P E n c Q env ((i,.grow k T [])::f i)):b9 P E n c Q env O:=fun I F ρ w h1 h2=>by
 obtain ⟨i,hi⟩:=h2.name
 obtain ⟨J,e1,hle,e2,htop⟩:=hi (none,0)
 obtain ⟨_,L,hL,hS⟩:=h2
 obtain ⟨L',h3,h4⟩:=eh.sameG hle (hP i) hc (hnew i) (fun v hv=>⟨none,0,e2,hv⟩) hL
 exact (h i J F ρ w (h1.mono hle) ⟨htop,_,⟨[],L',rfl,⟨none,0,0,[],e2,rfl,by simp,gy.nil k T⟩,h3⟩,by rw[e1];exact hS.perm (h4.symm.append_right F)⟩).mono fun _ _ _=>gU.up hle
theorem wM {I:G} {F:List (Nat × Obj)} {E w:World} {i k m:Nat} {T:TypeId} {rows:List (List AV)} (hO:cU O i (.grow k T rows.flatten) O') (hk:∀r∈rows,r.length=k) (hk0:0<k) (hm:rows.length=m) (h:eQ I O F E w) :
  ∃J B,I.le J∧bu I O' B∧(∃top,∀i,top≤i→J.h i=none)∧SL J.k (B++F) E w∧∀v,bO I (.own i m) v→bO J (.fro k rows) v:=by
 obtain ⟨ht,L,hL,hS⟩:=h
 obtain ⟨A,B,hp,hA,hB⟩:=hO.rep hL
 have hS2:SL I.k (A++(B++F)) E w:=hS.perm (by rw[←qq];exact (hp.append_right F).symm)
 obtain ⟨J,j1,j2,j3⟩:=SL.freezeAllN hS2
 have hle:I.le ⟨J,I.h⟩:=⟨j1,fun _ _ h=>h⟩
 subst hm
 exact ⟨⟨J,I.h⟩,B,hle,hB,ht,j2,fun v hv=>Ab hk hk0 hA hle j3 hv⟩
theorem aZ.knowG {j off i k k2 m:Nat} {T T':TypeId} {cs new:List AV} {rows:List (List AV)} (hO:cU O i (.grow k T rows.flatten) O') (hP:eh O' j (.grow k2 T' cs) (.grow k2 T' new) O'') (hc:cs[off]?=some (.own i m)) (hnew:cs.set off (.fro k rows)=new)
  (hk:∀r∈rows,r.length=k) (hk0:0<k) (hm:rows.length=m):aZ E env O env O'':=fun I F ρ w h1 h2=>by
 obtain ⟨J,B,hle,hB,htop,hS,h4⟩:=wM hO hk hk0 hm h2
 obtain ⟨L',h5,h6⟩:=eh.sameG hle hP hc hnew h4 hB
 exact ⟨J,hle,h1.mono hle,htop,L',h5,hS.perm (h6.symm.append_right F)⟩
end
set_option linter.defProp false
def qj:=@dq.up
end
end Go.Proofs.YtbconpmnckokoaaGreatDoor
