/- The facts from the beginning; a program gone through; which checks are proved, which branches are decided. Of programs that are little. -/
import Derived.Test.YtdilpodccjlkgaaGreatDoorHt
import Derived.Test.YtdilpodccjlkgaaGreatDoorHh
import Derived.Test.YtdilpodccjlkgaaGreatDoorHm
import Derived.Test.YtdilpodccjlkgaaGreatDoorHp
import Derived.Test.YtdilpodccjlkgaaGreatDoorHr
import Derived.Test.YtdilpodccjlkgaaGreatDoorHq
set_option linter.unusedVariables false
set_option linter.unusedSimpArgs false
set_option linter.unusedSectionVars false
namespace Go.Proofs.YtdilpodccjlkgaaGreatDoor
open Go.Proofs.Tryz
open Go.Proofs Go.Lib Go.Shelf Go.RowKit
set_option maxRecDepth 20000
variable {E:World}
theorem mu {α:Type} (g:α→Nat):∀(l:List α) (k:Nat),((l.take k).map g).sum≤(l.map g).sum
 |[],k=>by simp
 |x::l,0=>by simp
 |x::l,k+1=>by
  have:=mu g l k
  simp only[List.take_succ_cons,List.map_cons,List.sum_cons];omega
theorem DL (l:List e7) (k:Nat):wP (l.take k)≤wP l:=mu _ l k
theorem DM (l:List aF) (k:Nat):wX (l.take k)≤wX l:=mu _ l k
theorem m3 {f:ad} (h:mO f) {k:Nat} (hk:k<f.blocks.length):wV f.vars+vH (f.blocks.take k)+wB f.blocks[k]≤4000:=by
 have h1:=h.2.2.2.2.2 (fun e=>by rw[e] at hk;exact absurd hk (Nat.not_lt_zero _))
 have h2:vH (f.blocks.take (k+1))≤vH f.blocks:=mu _ f.blocks (k+1)
 rw[tW hk] at h2
 omega
set_option maxHeartbeats 8000000 in
theorem uP (f:ad) (hf:ru f):aR prog E 8 [.agg (bD f)] [] (fun x _=>∃b:Bool,x=.bool b∧(b=true↔mO f)):=by
 obtain ⟨hf1,hf2,hf3,hf4⟩:=hf
 have hl1:=hf1.lt
 have hl3:=hf3.lt
 refine zq func8 U (by decide) U<|ae<|y9 (cs:=_) U U U<|ab U<|z6<|zd<|zd<|ya (γ:=Unit) [1] (fun u=>[(27,.bool (yO f))]) (fun u=>[]) (fun u=>True) ?_ (fun _ _ h=>h) ?_
 ·refine aO<|ao jg U Y4 U U<|aI Yb U<|ar Z7 U<|bb U U<|aj U<|zo (s:=16) U (fun c1=>?_) (fun c1=>?_)
  ·refine z7 U U c1<|z7 U U c1<|z7 U U c1<|z7 U U c1<|aq U c1 U<|aj U<|z7 U U U<|z7 U U U<|z7 U U U<|z7 U U U<|aq U U U<|z6 ?_
   exact ⟨(),aH,⟨jb (by simp_all[yO]<;>grind),trivial⟩,aD,trivial⟩
  ·refine z8 U U c1<|ao jg U Z6 U U<|z8 U U c1<|aI Zd U<|z8 U U c1<|ar jk U<|z8 U U c1<|bb U U<|au U c1 U<|aj U<|zo (s:=22) U (fun c2=>?_) (fun c2=>?_)
   ·refine z7 U U c2<|z7 U U c2<|z7 U U c2<|z7 U U c2<|aq U c2 U<|z6 ?_
    exact ⟨(),aH,⟨jb (by simp_all[yO]<;>grind),trivial⟩,aD,trivial⟩
   ·refine z8 U U c2<|ao jg U j8 U U<|z8 U U c2<|aI j9 U<|z8 U U c2<|ar wz U<|z8 U U c2<|bb U U<|au U c2 U<|z6 ?_
    exact ⟨(),aH,⟨jb (by simp_all[yO]<;>grind),trivial⟩,aD,trivial⟩
 ·rintro _ _
  refine zy U (fun c1=>?_) (fun c1=>?_)
  ·refine ae<|ab U<|z6<|zi<|zm (x:=.bool _) U ?_
   exact ⟨_,rfl,fun h=>(by cases h),fun hl=>absurd hl (fun hl=>by have h1:=hl.1;have h2:=hl.2.1;have h3:=hl.2.2.1;unfold yO at c1;simp at c1;omega)⟩
  ·have hsz:f.vars.length≤100∧f.blocks.length≤40∧f.params.length≤20:=by unfold yO at c1;simp at c1;omega
   refine zg<|ae<|ap U<|z6<|zd<|ae<|ao jg U Y4 U U<|aI Yb U<|ar Z7 U<|aa U<|z6<|zj<|y8 (γ:=Nat) [1,29,30] (fun k=>[(31,.int .i64 k),(3,.int .i64 (wV (f.vars.take k)))]) (fun k=>[]) (fun k=>k≤f.vars.length∧wV (f.vars.take k)≤400*k∧∀v∈f.vars.take k,v.name.size≤400) (fun k=>f.vars.length - k) 0 cV aD (⟨qn _,Nat.le_refl _,by simp⟩) ?_
   rintro k ⟨hk,hw,hv⟩
   refine ae<|ax U U<|z6<|zd<|zu U (fun ck=>?_) (fun ck=>?_)
   ·have hk1:k<f.vars.length:=by omega
    have hs:=Dc hk1
    refine zg<|zd<|zj<|ae<|za (qa Z7 Y1 U U U (qk (by omega)))<|ac isAgg61 Y1 U U<|y6 (cs:=[.str ⟨#[]⟩,.int .i64 0]) X7 U U<|fun i5=>y1 Y1 U U U U U U .head U<|z6<|zd<|ae<|za (zn Zi U Y3 (by decide) U U)<|za (zt (c:=.str _) Y9 U ⟨_,.head⟩ U)<|za (Gv.lenT Zr U)<|bb U U<|z6<|zu U (fun cn=>?_) (fun cn=>?_)
    ·refine ae<|ab U<|z6<|zi<|zm (x:=.bool _) U ?_
     exact ⟨_,rfl,fun h=>(by cases h),fun hl=>absurd hl (fun hl=>by have h1:=hl.2.2.2.1 _ (qo hk1);omega)⟩
    ·refine zg<|aO<|aa U<|za (zn Zi U Y3 (by decide) U U)<|za (zt (c:=.str _) Y9 U ⟨_,.head⟩ U)<|za (Gv.lenT Zr U)<|aC U U<|ap U<|z6<|aO<|aC U U<|aa U<|z6 ?_
     exact ⟨k+1,de,⟨rfl,congrArg (AV.int .i64) (by rw[hs];omega),trivial⟩,⟨_,(.drop (.refl _)),rfl⟩,⟨hk1,by omega,eD hk1 hv (by omega)⟩,by omega⟩
   ·obtain rfl:k=f.vars.length:=by omega
    rw[qp] at hw hv
    rw[qp]
    refine y7<|zd<|ae<|ao jg U Z6 U U<|aI Zd U<|ar jk U<|aa U<|z6<|zj<|y8 (γ:=Nat) [46,47] (fun k=>[(48,.int .i64 k),(3,.int .i64 (wV f.vars+vH (f.blocks.take k):Nat))]) (fun k=>[]) (fun k=>k≤f.blocks.length∧(0<k→wV f.vars+vH (f.blocks.take k)≤4000)∧vH (f.blocks.take k)≤4000∧∀b∈f.blocks.take k,xd b) (fun k=>f.blocks.length - k) 0 cV aD (⟨qn _,by omega,by simp[vH],by simp⟩) ?_
    rintro k ⟨hk,hw2,hw3,hb⟩
    refine ae<|ax U U<|z6<|zd<|zu U (fun ck=>?_) (fun ck=>?_)
    ·have hk1:k<f.blocks.length:=by omega
     obtain ⟨hb1,hb2,hb3,hb4⟩:=hf4 _ (qo hk1)
     have hs:=tW hk1
     refine zg<|zd<|zj<|ae<|za (qa jk Z0 U U U (qk (by omega)))<|ac Yk Z0 U U<|y6 (cs:=[.str ⟨#[]⟩,.raw (.slice none 0 0),.raw (.slice none 0 0),.int .i64 0,.int .i64 0,.int .i64 0,.int .i64 0]) Zn U U<|fun i7=>y1 Z0 U U U U U U .head U<|z6<|zd<|zd<|ya (γ:=Unit) [3,7,46,47,48] (fun u=>[(67,.bool (yP f.blocks[k]))]) (fun u=>[(i7,.cells 51 (cZ f.blocks[k]))]) (fun u=>True) ?_ (fun _ _ h=>h) ?_
     ·refine aO<|za (zn jj U Y3 (by decide) U U)<|za (zt (c:=.str _) Y9 U ⟨_,.head⟩ U)<|za (Gv.lenT Zr U)<|bb U U<|aj U<|zo (s:=56) U (fun c3=>?_) (fun c3=>?_)
      ·refine z7 U U c3<|z7 U U c3<|z7 U U c3<|z7 U U c3<|aq U c3 U<|aj U<|z7 U U U<|z7 U U U<|z7 U U U<|z7 U U U<|aq U U U<|z6 ?_
       exact ⟨(),iO,⟨jb (by simp_all[yP]<;>grind),trivial⟩,aD,trivial⟩
      ·refine z8 U U c3<|za (zn jj U Yg (by decide) U U)<|z8 U U c3<|za (zt (c:=.fro _ _) Ys U ⟨_,.head⟩ U)<|z8 U U c3<|ar Z5 U<|z8 U U c3<|bb U U<|au U c3 U<|aj U<|zo (s:=62) U (fun c4=>?_) (fun c4=>?_)
       ·refine z7 U U c4<|z7 U U c4<|z7 U U c4<|z7 U U c4<|aq U c4 U<|z6 ?_
        exact ⟨(),iO,⟨jb (by simp_all[yP]<;>grind),trivial⟩,aD,trivial⟩
       ·refine z8 U U c4<|za (zn jj U Zo (by decide) U U)<|z8 U U c4<|za (zt (c:=.fro _ _) Zx U ⟨_,.head⟩ U)<|z8 U U c4<|ar jz U<|z8 U U c4<|bb U U<|au U c4 U<|z6 ?_
        exact ⟨(),iO,⟨jb (by simp_all[yP]<;>grind),trivial⟩,aD,trivial⟩
     ·rintro _ _
      refine zy U (fun c2=>?_) (fun c2=>?_)
      ·refine ae<|ab U<|z6<|zi<|zm (x:=.bool _) U ?_
       exact ⟨_,rfl,fun h=>(by cases h),fun hl=>absurd hl (fun hl=>by obtain ⟨h1,h2,h3,_⟩:=hl.2.2.2.2.1 _ (qo hk1);unfold yP at c2;simp at c2;omega)⟩
      ·have hsb:f.blocks[k].name.size≤400∧f.blocks[k].phis.length≤400∧f.blocks[k].insts.length≤400:=by unfold yP at c2;simp at c2;omega
       refine zg<|ae<|aa U<|za (zn jj U Y3 (by decide) U U)<|za (zt (c:=.str _) Y9 U ⟨_,.head⟩ U)<|za (Gv.lenT Zr U)<|za (zn jj U Yg (by decide) U U)<|za (zt (c:=.fro _ _) Ys U ⟨_,.head⟩ U)<|ar Z5 U<|za (zn jj U Zo (by decide) U U)<|za (zt (c:=.fro _ _) Zx U ⟨_,.head⟩ U)<|ar jz U<|aC U U<|za (Gv.mul U U (by unfold lj;omega))<|aC U U<|aC U U<|ap U<|z6<|zd<|ae<|za (zn jj U Yg (by decide) U U)<|za (zt (c:=.fro _ _) Ys U ⟨_,.head⟩ U)<|ar Z5 U<|aa U<|z6<|zj<|y8 (γ:=Nat) [7,46,47,48,83,84] (fun m=>[(85,.int .i64 m),(3,.int .i64 (wV f.vars+vH (f.blocks.take k)+(f.blocks[k].name.size+10*(f.blocks[k].phis.length+f.blocks[k].insts.length))+wP (f.blocks[k].phis.take m):Nat))]) (fun m=>[(i7,.cells 51 (cZ f.blocks[k]))]) (fun m=>m≤f.blocks[k].phis.length∧wP (f.blocks[k].phis.take m)≤800*m∧∀p∈f.blocks[k].phis.take m,p.args.length≤400∧p.from_.length≤400) (fun m=>f.blocks[k].phis.length - m) 0 ⟨U,(congrArg (AV.int .i64) (by simp[wP]<;>omega)),trivial⟩ aD (⟨qn _,by simp[wP],by simp⟩) ?_
       rintro m ⟨hm,hwp,hp⟩
       refine ae<|ax U U<|z6<|zd<|zu U (fun cm=>?_) (fun cm=>?_)
       ·have hm1:m<f.blocks[k].phis.length:=by omega
        obtain ⟨hq1,hq2⟩:=hb3 _ (qo hm1)
        have hl6:=hq1.lt
        have hl7:=hq2.lt
        have hs2:=Dd hm1
        refine zg<|zd<|zj<|ae<|za (qa Z5 Zf U U U (qk (by omega)))<|ac X0 Zf U U<|y6 (cs:=[.int .i64 0,.raw (.slice none 0 0),.raw (.slice none 0 0)]) Yc U U<|fun i9=>y1 Zf U U U U U U .head U<|z6<|zd<|zd<|ya (γ:=Unit) [3,7,9,46,47,48,83,84,85] (fun u=>[(102,.bool (decide ((4000:Int)<(wV f.vars+vH (f.blocks.take k)+(f.blocks[k].name.size+10*(f.blocks[k].phis.length+f.blocks[k].insts.length))+wP (f.blocks[k].phis.take m):Nat))||(decide ((400:Int)<f.blocks[k].phis[m].args.length)||decide ((400:Int)<f.blocks[k].phis[m].from_.length))))]) (fun u=>[(i9,.cells 63 (eN f.blocks[k].phis[m])),(i7,.cells 51 (cZ f.blocks[k]))]) (fun u=>True) ?_ (fun _ _ h=>h) ?_
        ·refine aO<|aa U<|bb U U<|aj U<|zo (s:=91) U (fun c5=>?_) (fun c5=>?_)
         ·refine z7 U U c5<|z7 U U c5<|z7 U U c5<|z7 U U c5<|aq U c5 U<|aj U<|z7 U U U<|z7 U U U<|z7 U U U<|z7 U U U<|aq U U U<|z6 ?_
          exact ⟨(),n8,⟨jb (by simp_all<;>grind),trivial⟩,aD,trivial⟩
         ·refine z8 U U c5<|za (zn Z3 U j8 (by decide) U U)<|z8 U U c5<|za (zt (c:=.fro _ _) j9 U ⟨_,.head⟩ U)<|z8 U U c5<|ar wz U<|z8 U U c5<|bb U U<|au U c5 U<|aj U<|zo (s:=97) U (fun c6=>?_) (fun c6=>?_)
          ·refine z7 U U c6<|z7 U U c6<|z7 U U c6<|z7 U U c6<|aq U c6 U<|z6 ?_
           exact ⟨(),n8,⟨jb (by simp_all<;>grind),trivial⟩,aD,trivial⟩
          ·refine z8 U U c6<|za (zn Z3 U j8 (by decide) U U)<|z8 U U c6<|za (zt (c:=.fro _ _) j9 U ⟨_,.head⟩ U)<|z8 U U c6<|ar wz U<|z8 U U c6<|bb U U<|au U c6 U<|z6 ?_
           exact ⟨(),n8,⟨jb (by simp_all<;>grind),trivial⟩,aD,trivial⟩
        ·rintro _ _
         refine zy U (fun cp=>?_) (fun cp=>?_)
         ·refine ae<|ab U<|z6<|zi<|zm (x:=.bool _) U ?_
          exact ⟨_,rfl,fun h=>(by cases h),fun hl=>absurd hl (fun hl=>by obtain ⟨_,_,_,h4,_⟩:=hl.2.2.2.2.1 _ (qo hk1);have h5:=h4 _ (qo hm1);have h9:=m3 hl hk1;have hwb:wB f.blocks[k]=f.blocks[k].name.size+10*(f.blocks[k].phis.length+f.blocks[k].insts.length)+wP f.blocks[k].phis+wX f.blocks[k].insts:=rfl;have h10:=DL f.blocks[k].phis m;simp only[Bool.or_eq_true,w6] at cp;omega)⟩
         ·rcases Bool.or_eq_false_iff.1 cp with ⟨a1,a2⟩
          rcases Bool.or_eq_false_iff.1 a2 with ⟨a3,a4⟩
          have a3:=w5 a3
          have a4:=w5 a4
          refine zg<|aO<|aa U<|za (zn Z3 U j8 (by decide) U U)<|za (zt (c:=.fro _ _) j9 U ⟨_,.head⟩ U)<|ar wz U<|za (zn Z3 U j8 (by decide) U U)<|za (zt (c:=.fro _ _) j9 U ⟨_,.head⟩ U)<|ar wz U<|aC U U<|aC U U<|ap U<|z6<|aO<|aC U U<|aa U<|z6 ?_
          exact ⟨m+1,nu,⟨rfl,congrArg (AV.int .i64) (by rw[hs2];omega),trivial⟩,⟨_,(.drop (.refl _)),rfl⟩,⟨hm1,by omega,eD hm1 hp ⟨by omega,by omega⟩⟩,by omega⟩
       ·obtain rfl:m=f.blocks[k].phis.length:=by omega
        rw[qp] at hwp hp
        rw[qp]
        refine y7<|zd<|ae<|za (zn jj U Zo (by decide) U U)<|za (zt (c:=.fro _ _) Zx U ⟨_,.head⟩ U)<|ar jz U<|aa U<|z6<|zj<|y8 (γ:=Nat) [46,47,48,114,115] (fun m=>[(116,.int .i64 m),(3,.int .i64 (wV f.vars+vH (f.blocks.take k)+(f.blocks[k].name.size+10*(f.blocks[k].phis.length+f.blocks[k].insts.length))+wP f.blocks[k].phis+wX (f.blocks[k].insts.take m):Nat))]) (fun m=>[(i7,.cells 51 (cZ f.blocks[k]))]) (fun m=>m≤f.blocks[k].insts.length∧wX (f.blocks[k].insts.take m)≤400*m∧∀p∈f.blocks[k].insts.take m,p.args.length≤400) (fun m=>f.blocks[k].insts.length - m) 0 ⟨U,(congrArg (AV.int .i64) (by simp[wX]<;>omega)),trivial⟩ aD (⟨qn _,by simp[wX],by simp⟩) ?_
        rintro m ⟨hm,hwx,hx⟩
        refine ae<|ax U U<|z6<|zd<|zu U (fun cm=>?_) (fun cm=>?_)
        ·have hm1:m<f.blocks[k].insts.length:=by omega
         have hq1:=hb4 _ (qo hm1)
         have hl6:=hq1.lt
         have hs2:=De hm1
         refine zg<|zd<|zj<|ae<|za (qa jz jv U U U (qk (by omega)))<|ac Zk jv U U<|y6 (cs:=[.int .i64 0,.int .i64 0,.raw (.slice none 0 0),.int .i64 0]) Z4 U U<|fun i11=>y1 jv U U U U U U .head U<|z6<|zd<|zd<|ya (γ:=Unit) [3,11,46,47,48,114,115,116] (fun u=>[(127,.bool (decide ((4000:Int)<(wV f.vars+vH (f.blocks.take k)+(f.blocks[k].name.size+10*(f.blocks[k].phis.length+f.blocks[k].insts.length))+wP f.blocks[k].phis+wX (f.blocks[k].insts.take m):Nat))||decide ((400:Int)<f.blocks[k].insts[m].args.length)))]) (fun u=>[(i11,.cells 54 (aP f.blocks[k].insts[m])),(i7,.cells 51 (cZ f.blocks[k]))]) (fun u=>True) ?_ (fun _ _ h=>h) ?_
         ·refine aO<|aa U<|bb U U<|aj U<|zo (s:=122) U (fun c7=>?_) (fun c7=>?_)
          ·refine z7 U U c7<|z7 U U c7<|z7 U U c7<|z7 U U c7<|aq U c7 U<|z6 ?_
           exact ⟨(),pS,⟨jb (by simp_all<;>grind),trivial⟩,aD,trivial⟩
          ·refine z8 U U c7<|za (zn j5 U j8 (by decide) U U)<|z8 U U c7<|za (zt (c:=.fro _ _) j9 U ⟨_,.head⟩ U)<|z8 U U c7<|ar wz U<|z8 U U c7<|bb U U<|au U c7 U<|z6 ?_
           exact ⟨(),pS,⟨jb (by simp_all<;>grind),trivial⟩,aD,trivial⟩
         ·rintro _ _
          refine zy U (fun cp=>?_) (fun cp=>?_)
          ·refine ae<|ab U<|z6<|zi<|zm (x:=.bool _) U ?_
           exact ⟨_,rfl,fun h=>(by cases h),fun hl=>absurd hl (fun hl=>by obtain ⟨_,_,_,_,h4⟩:=hl.2.2.2.2.1 _ (qo hk1);have h5:=h4 _ (qo hm1);have h9:=m3 hl hk1;have hwb:wB f.blocks[k]=f.blocks[k].name.size+10*(f.blocks[k].phis.length+f.blocks[k].insts.length)+wP f.blocks[k].phis+wX f.blocks[k].insts:=rfl;have h10:=DM f.blocks[k].insts m;simp only[Bool.or_eq_true,w6] at cp;omega)⟩
          ·rcases Bool.or_eq_false_iff.1 cp with ⟨a1,a2⟩
           have a2:=w5 a2
           refine zg<|aO<|aa U<|za (zn j5 U j8 (by decide) U U)<|za (zt (c:=.fro _ _) j9 U ⟨_,.head⟩ U)<|ar wz U<|aC U U<|ap U<|z6<|aO<|aC U U<|aa U<|z6 ?_
           exact ⟨m+1,iO,⟨rfl,congrArg (AV.int .i64) (by rw[hs2];omega),trivial⟩,⟨_,(.drop (.refl _)),rfl⟩,⟨hm1,by omega,eD hm1 hx (by omega)⟩,by omega⟩
        ·obtain rfl:m=f.blocks[k].insts.length:=by omega
         rw[qp] at hwx hx
         rw[qp]
         refine y7<|ae<|aa U<|bb U U<|z6<|zu U (fun cz=>?_) (fun cz=>?_)
         ·refine ae<|ab U<|z6<|zi<|zm (x:=.bool _) U ?_
          exact ⟨_,rfl,fun h=>(by cases h),fun hl=>absurd hl (fun hl=>by have h9:=m3 hl hk1;have hwb:wB f.blocks[k]=f.blocks[k].name.size+10*(f.blocks[k].phis.length+f.blocks[k].insts.length)+wP f.blocks[k].phis+wX f.blocks[k].insts:=rfl;omega)⟩
         ·have hwb:wB f.blocks[k]=f.blocks[k].name.size+10*(f.blocks[k].phis.length+f.blocks[k].insts.length)+wP f.blocks[k].phis+wX f.blocks[k].insts:=rfl
          refine zg<|aO<|aC U U<|aa U<|z6 ?_
          exact ⟨k+1,cV,⟨rfl,congrArg (AV.int .i64) (by rw[hs];omega),trivial⟩,⟨_,(.drop (.refl _)),rfl⟩,⟨hk1,by omega,by omega,eD hk1 hb ⟨hsb.1,hsb.2.1,hsb.2.2,hp,hx⟩⟩,by omega⟩
    ·obtain rfl:k=f.blocks.length:=by omega
     rw[qp] at hw2 hw3 hb
     refine y7<|ae<|ab U<|z6<|zi<|zm (x:=.bool _) U ?_
     exact ⟨_,rfl,fun _=>⟨hsz.1,hsz.2.1,hsz.2.2,hv,hb,fun hne=>hw2 (List.length_pos_iff.2 hne)⟩,fun _=>rfl⟩
theorem nL (f:ad) (hf:sd f) (hn:mf f) (hL:bB E):aK prog E 76 [.agg (bD f)] (.bool (decide (b8 f))):=by
 refine zq func76 U (by decide) U<|ae<|y9 (cs:=_) U U U<|ab U<|z6<|ae<|ac ju jf U U<|ze (oO _ (by assumption) (by assumption) hL) U<|ab U<|z6<|zi<|zm (x:=.bool _) U ?_
 rfl
noncomputable def uQ (f:ad):Bool:=@decide (mO f) (Classical.propDecidable _)
theorem kG (f:ad):uQ f=true↔mO f:=by unfold uQ;exact @decide_eq_true_iff _ (Classical.propDecidable _)
theorem rI (f:ad) (hf:ru f):aK prog E 8 [.agg (bD f)] (.bool (uQ f)):=
 (uP f hf).mono fun x O' ⟨b,e,h⟩=>by
  rw[e]
  congr 1
  rw[qt,h,kG]
theorem qI (f:ad) (hE:bV f) (hf:small f) (hS:b8 f):aK prog E 21 [.agg (bD f)] (.bool (ij f&&iH f)):=by
 have hn:=hf.2.2.1
 refine zq func21 U (by decide) U<|ae<|y9 (cs:=_) U U U<|ab U<|z6<|zd<|ae<|ao jg U Z6 U U<|aI Zd U<|ar jk U<|aa U<|z6<|zj<|y8 (γ:=Nat) [1,8,9] (fun i=>[(10,.int .i64 i)]) (fun i=>[]) (fun i=>i≤f.blocks.length∧(f.blocks.take i).all (fun b=>!(b.insts.any fun x=>decide (x.op=25)||decide (x.op=26)))=true) (fun i=>f.blocks.length - i) 0 aH aD (⟨qn _,U⟩) ?_
 rintro i ⟨hi,hall⟩
 refine ae<|ax U U<|z6<|zd<|zu U (fun ci=>?_) (fun ci=>?_)
 ·have hi2:i<f.blocks.length:=by simp at ci;omega
  obtain ⟨b,hbi⟩:∃b,f.blocks[i]=b:=⟨_,rfl⟩
  have hget:f.blocks[i]?=some b:=by rw[qk hi2,hbi]
  have hmem:b∈f.blocks:=hbi▸qo hi2
  obtain ⟨hb0,hb1,hb2,hb3,hb4⟩:=hf.2.2.2.2 b hmem
  obtain ⟨hPh,hIn,hTm⟩:=hS.2.2.2.2.2 b hmem
  refine zg<|zd<|zj<|ae<|za (bh i jk Z0 U U U hget)<|ac Yk Z0 U U<|y6 (cs:=[.str ⟨#[]⟩,.raw (.slice none 0 0),.raw (.slice none 0 0),.int .i64 0,.int .i64 0,.int .i64 0,.int .i64 0]) Zn U U<|fun i4=>y1 Z0 U U U U U U .head U<|zf (yf (t:=4) U .head)<|z6<|ae<|ao jj U Zo U U<|aI Zx U<|ar jz U<|aa U<|z6<|zj<|y8 (γ:=Nat) [1,8,9,10,15,16] (fun k=>[(17,.int .i64 k)]) (fun k=>[]) (fun k=>k≤b.insts.length∧(b.insts.take k).all (fun x=>!(decide (x.op=25)||decide (x.op=26)))=true) (fun k=>b.insts.length - k) 0 aH aD (⟨qn _,U⟩) ?_
  rintro k ⟨hk,hkall⟩
  refine ae<|ax U U<|z6<|zd<|zu U (fun ck=>?_) (fun ck=>?_)
  ·have hk2:k<b.insts.length:=by simp at ck;omega
   have hI:=(gp (hIn _ (qo hk2))).op
   refine zg<|zd<|zj<|ae<|za (bh k jz jv U U U (qk hk2))<|ac Zk jv U U<|y6 (cs:=[.int .i64 0,.int .i64 0,.raw (.slice none 0 0),.int .i64 0]) Z4 U U<|fun i6=>y1 jv U U U U U U .head U<|zf (yf (t:=6) U .head)<|z6<|ae<|ao j5 U jy U U<|ay Z2 U<|za (yy U U)<|z6<|zu U (fun cq=>?_) (fun cq=>?_)
   ·have hbad:(b.insts.any fun x=>decide (x.op=25)||decide (x.op=26))=true:=List.any_eq_true.2 ⟨_,qo hk2,by simp;omega⟩
    refine ae<|ab U<|z6<|zi<|zm (x:=.bool _) U ?_
    rw[show ij f=false from Bool.eq_false_iff.2 (dh hi2 (by rw[hbi,hbad];rfl))];rfl
   ·refine zg<|aO<|aC U U<|aa U<|z6 ?_
    exact ⟨k+1,nu,aH,aD,⟨hk2,bN hk2 hkall (by simp;omega)⟩,by omega⟩
  ·have hkn:k=b.insts.length:=by simp at ck;omega
   rw[hkn,qp] at hkall
   have hgood:(b.insts.any fun x=>decide (x.op=25)||decide (x.op=26))=false:=List.any_eq_false.2 fun x hx=>by have:=List.all_eq_true.1 hkall x hx;simpa using this
   refine y7<|aO<|aC U U<|aa U<|z6 ?_
   exact ⟨i+1,de,aH,aD,⟨hi2,bN hi2 hall (by rw[hbi,hgood];rfl)⟩,by omega⟩
 ·have hin:i=f.blocks.length:=by simp at ci;omega
  rw[hin,qp] at hall
  refine y7<|ae<|ac ju jf U U<|ze (pE f hE hf hS) U<|ab U<|z6<|zi<|zm (x:=.bool _) U ?_
  rw[show ij f=true from hall];rfl
theorem pI (f:ad) (hf:small f) (hL:bB E):aK prog E 39 [.agg (bD f)] (.bool (bj f)):=by
 have hs:=nL (E:=E) f hf.ok hf.names hL
 refine zq func39 U (by decide) U<|ae<|y9 (cs:=_) U U U<|ab U<|z6<|ae<|ac ju jf U U<|ze (hs) U ?_
 by_cases g4:b8 f
 ·refine aj U<|z8 U U (qx g4)<|ac ju jf U U<|z8 U U (qx g4)<|ze (qH f hf g4) U<|za (ta U (qx g4) U)<|ab U<|z6<|zi<|zm (x:=.bool _) U ?_
  exact jb (by unfold bj;rw[gL,qx g4];rfl)
 ·refine aj U<|z7 U U (qy g4)<|z7 U U (qy g4)<|za (qU U (qy g4) U)<|ab U<|z6<|zi<|zm (x:=.bool _) U ?_
  exact jb (by unfold bj;rw[gL,qy g4];rfl)
theorem qJ (f:ad) (hw:ru f) (hL:bB E):aK prog E 20 [.agg (bD f)] (.bool (uQ f&&bj f)):=by
 refine zq func20 U (by decide) U<|ae<|y9 (cs:=_) U U U<|ab U<|z6<|ae<|ac ju jf U U<|ze (rI f hw) U<|aj U<|zo (s:=5) U (fun g=>?_) (fun g=>?_)
 ·refine z8 U U g<|ac ju jf U U<|z8 U U g<|ze (pI f ((kG f).1 g).small hL) U<|aq U g U<|ab U<|z6<|zi<|zm (x:=.bool _) U ?_
  exact jb (by rw[g];rfl)
 ·refine z7 U U g<|z7 U U g<|au U g U<|ab U<|z6<|zi<|zm (x:=.bool _) U ?_
  exact jb (by rw[g];rfl)
noncomputable def fA (f:ad):Bool:=uQ f&&bj f&&(dv f&&ij f)
theorem Cf {a b:Bool} (h:(a&&b)=true):a=true∧b=true:=by simpa using h
theorem uR {f:ad} (h:bj f=true):iH f=dv f:=
 BE (dL h) fun b hb p hp c hc=>by
  have h1:=((eW h).2.2.2.2.2 b hb).1 p hp
  have h2:=List.all_eq_true.1 h1.2.2.2.2 c hc
  simpa [eO] using h2
theorem lr (f:ad) (hw:ru f) (hL:bB E):aK prog E 10 [.agg (bD f)] (.bool (fA f)):=by
 refine zq func10 U (by decide) U<|ae<|y9 (cs:=_) U U U<|ab U<|z6<|ae<|ac ju jf U U<|ze (qJ f hw hL) U<|aj U<|zo (s:=5) U (fun g=>?_) (fun g=>?_)
 ·refine z8 U U g<|ac ju jf U U<|z8 U U g<|ze (qI f (dL (Cf g).2) ((kG f).1 (Cf g).1).small (eW (Cf g).2)) U<|aq U g U<|ab U<|z6<|zi<|zm (x:=.bool _) U ?_
  exact jb (by unfold fA;rw[g,uR (Cf g).2,Bool.and_comm];rfl)
 ·refine z7 U U g<|z7 U U g<|au U g U<|ab U<|z6<|zi<|zm (x:=.bool _) U ?_
  exact jb (by unfold fA;rw[g];rfl)
end Go.Proofs.YtdilpodccjlkgaaGreatDoor
namespace Go.Proofs.YtdilpodccjlkgaaGreatDoor
open Go.Proofs.Tryz
end Go.Proofs.YtdilpodccjlkgaaGreatDoor
namespace Go.Proofs.YtdilpodccjlkgaaGreatDoor
open Go.Proofs.Tryz
open Go.Proofs Go.Lib Go.Shelf Go.RowKit
variable {E:World}
set_option maxRecDepth 20000
theorem pJ (op:Int):aK prog E 19 [.int .i64 op] (.bool (decide (18≤op)&&decide (op≤24))):=by
 refine zq func19 U (by decide) U<|ae<|ab U<|z6<|ae<|aa U<|za (yy U U)<|aj U<|zo (s:=5) U (fun c1=>?_) (fun c1=>?_)
 ·refine z8 U U c1<|aa U<|z8 U U c1<|za (qb U U)<|aq U c1 U<|ab U<|z6<|zi<|zm (x:=.bool _) U ?_
  exact jb (by simp_all<;>omega)
 ·refine z7 U U c1<|z7 U U c1<|au U c1 U<|ab U<|z6<|zi<|zm (x:=.bool _) U ?_
  exact jb (by simp_all<;>omega)
end Go.Proofs.YtdilpodccjlkgaaGreatDoor
namespace Go.Proofs.YtdilpodccjlkgaaGreatDoor
open Go.Proofs.Tryz
open Go.Proofs Go.Lib Go.Shelf Go.RowKit
variable {E:World}
set_option maxRecDepth 20000
theorem Ae (f:ad) {i:Nat} (hi:i<f.blocks.length):(ni f)[i]?=some (dY (ah f) f.blocks.length i):=by
 unfold ni
 rw[eG _ hi]
 congr 1
 unfold sx dY
 rw[List.filter_map,List.map_map,List.filter_filter]
 have:((fun p:Int × Int=>p.2)∘fun b=>(gi (bi (ah f) f.blocks.length) b,b))=_root_.id:=rfl
 rw[this,List.map_id]
 refine List.filter_congr fun c _=>?_
 simp[Function.comp,Bool.and_comm]
theorem wr (f:ad) (hE:bV f) (hn:f.blocks.length≤1000) {i:Nat} (hi:i<f.blocks.length) (hr:(i:Int)∈aA (ah f) f.blocks.length) (y:AV):aK prog E 74 [mj f (lg eI (ni f)) y,.int .i64 i] (.fro 1 ((dY (ah f) f.blocks.length i).map cW)):=by
 have hlev:decide (gi (bT (ah f) f.blocks.length) (i:Int)≠-1)=true:=qx ((hE.grph.lev_mem _).2 hr)
 have hkl:(dY (ah f) f.blocks.length i).length≤1000:=by
  unfold dY
  exact Nat.le_trans (List.length_filter_le _ _) (by rw[bA];exact hn)
 have hget:((ni f).map fun r=>[AV.fro 1 (r.map eI.row)])[i]?=some [.fro 1 ((dY (ah f) f.blocks.length i).map cW)]:=by rw[qs,Ae f hi];rfl
 have hh:=mR (E:=E) (bT (ah f) f.blocks.length) (i:Int) (.fro 1 ((bi (ah f) f.blocks.length).map cW)) (lg eI (ni f)) y (by rw[hE.grph.lev.len];exact hn)
 unfold mj lg
 unfold lg at hh
 refine zq func74 U (by decide) U<|ae<|bF U<|z6<|zd<|ae<|bg U<|aa U<|ze (hh) U<|aB U<|z6<|yg U (by rw[hlev];rfl)<|zg<|ae<|bg U<|za (yc U)<|ao Zb U Xa U U<|aI isAgg70 U<|aa U<|za (Gv.idxF (j:=i) ji j8 U U U hget)<|aI j9 U<|ze (tV _ hkl) U<|za (kO U)<|z6<|zi<|zm (x:=.fro _ _) U ?_
 rfl
def Hj (f:ad) (K:KS) (i:Int):Prop:=(K.p.length:Int)≤1100*gi (bT (ah f) f.blocks.length) i∧∀q∈K.p,q.2.length≤1000
theorem Gw {f:ad} {K:KS} {x:aF} (hx:x.args.length≤1000) (h:∀q∈K.p,q.2.length≤1000):(dk f K x).p.length≤K.p.length+1∧(∀q∈(dk f K x).p,q.2.length≤1000)∧∃l,(dk f K x).p=K.p++l:=by
 unfold dk
 split
 ·rw[xr]
  refine ⟨by simp,fun q hq=>?_,_,rfl⟩
  rcases List.mem_append.1 hq with hq|hq
  ·exact h q hq
  ·rw[List.mem_singleton.1 hq];exact hx
 ·rw[sH];exact ⟨by omega,h,[],by simp⟩
theorem wt {f:ad}:∀(l:List aF) (K:KS),(∀x∈l,x.args.length≤1000)→(∀q∈K.p,q.2.length≤1000)→(l.foldl (dk f) K).p.length≤K.p.length+l.length∧(∀q∈(l.foldl (dk f) K).p,q.2.length≤1000)∧∃m,(l.foldl (dk f) K).p=K.p++m
 |[],K,_,h=>⟨by simp,h,[],by simp⟩
 |x::l,K,hx,h=>by
  obtain ⟨h1,h2,m1,h3⟩:=Gw (f:=f) (hx x (.head _)) h
  obtain ⟨g1,g2,m2,g3⟩:=wt l (dk f K x) (fun y hy=>hx y (.tail _ hy)) h2
  rw[List.foldl_cons]
  exact ⟨by rw[List.length_cons];omega,g2,m1++m2,by rw[g3,h3,qm]⟩
theorem dn (K:KS) (a b c:Int):∃l,(cQ K a b c).l=K.l++l:=by unfold cQ;split;exact ⟨_,rfl⟩;exact ⟨[],by simp⟩
theorem eJ {K L:KS} {M:List eu} (h:∃l,K.l=M++l) (g:∃l,L.l=K.l++l):∃l,L.l=M++l:=by
 obtain ⟨l,h⟩:=h;obtain ⟨m,g⟩:=g;exact ⟨l++m,by rw[g,h,qm]⟩
theorem iL (K:KS) (a b:Int) (o:Option Int):∃l,(addO K a b o).l=K.l++l:=by cases o with|none=>exact ⟨[],by simp[addO]⟩|some c=>exact dn K a b c
theorem m4 (K:KS) (a b:Int):∃l,(hU K a b).l=K.l++l:=eJ (dn _ _ _ _) (dn _ _ _ _)
theorem iM (K:KS):∃l,K.l=K.l++l:=⟨[],by simp⟩
theorem DN {f:ad} (K:KS) (x:aF):∃l,(dk f K x).l=K.l++l:=by
 have hp:∀p,∃l,(⟨K.l,p⟩:KS).l=K.l++l:=fun p=>⟨[],by simp⟩
 have hA:∃l,(dA f K x).l=K.l++l:=by
  unfold dA;split
  ·exact eJ (dn _ _ _ _) (dn _ _ _ _)
  ·exact iM K
 unfold dk
 split
 ·unfold iI
  repeat' split
  ·exact eJ (eJ (hp _) (dn _ _ _ _)) (dn _ _ _ _)
  ·exact eJ (eJ (hp _) (dn _ _ _ _)) (dn _ _ _ _)
  ·exact eJ (hp _) (dn _ _ _ _)
  ·exact eJ (hp _) (dn _ _ _ _)
  ·exact hp _
  ·exact hp _
 ·unfold gR
  split
  ·exact eJ (dn _ _ _ _) (dn _ _ _ _)
  split
  ·exact m4 _ _ _
  split
  ·exact m4 _ _ _
  split
  ·unfold jD
   split
   ·exact iM K
   split
   ·exact eJ (iL _ _ _ _) (iL _ _ _ _)
   ·exact eJ (eJ (eJ (iL _ _ _ _) (iL _ _ _ _)) (iL _ _ _ _)) (iL _ _ _ _)
  split
  ·unfold gQ
   split
   ·exact eJ hA (dn _ _ _ _)
   ·exact hA
  ·exact iM K
theorem uS {f:ad}:∀(l:List aF) (K:KS),∃m,(l.foldl (dk f) K).l=K.l++m
 |[],K=>iM K
 |x::l,K=>eJ (DN K x) (uS l (dk f K x))
theorem uT:∀(l:List v2) (K:KS),∃m,(l.foldl et K).l=K.l++m
 |[],K=>iM K
 |r::l,K=>eJ (by
   unfold et
   repeat' split
   ·exact dn _ _ _ _
   ·exact dn _ _ _ _
   ·exact m4 _ _ _
   ·exact iM K) (uT l (et K r))
theorem Af {f:ad} {K:KS} {t pr a9 a10:AV} {iw js jl jm jp:Nat} {M:List Int} (hR:bE f) (hv:f.vars.length≤1000) (hK:KB f K) (bk:Nat) {v:Int} (hvv:aZ f v=true) :
  aR prog E 73 [.po iw 0,.int .i64 v,dw bk] (iu f t pr a9 a10 iw js jl jm jp K M++[(0,iJ bk (mI []))]) (fun y O'=>∃O'',(∃es,y=.int .i64 (dK f K v)∧O''=[(0,iJ bk (mI es))])∧O'=iu f t pr a9 a10 iw js jl jm jp K M++O''):=by
 refine aR.lendTo (Q:=fun y O=>∃es,y=.int .i64 (dK f K v)∧O=[(0,iJ bk (mI es))]) BS (fun I J y O v h hv=>?_) (fun I J y O B h hB=>?_) ((xE f hR hv K hK t pr bk 100000 [] v hvv (hR.rk_low v) (CE.emp f K)).mono fun y O ⟨es,h1,h2,_⟩=>⟨es,h1,h2⟩)
 ·obtain ⟨es,rfl,_⟩:=h
  exact hv
 ·obtain ⟨es,_,rfl⟩:=h
  exact BR hB
structure GL (f:ad) (E:World):Prop where
 hf:small f
 hL:bB E
 hR:bE f
 ht:bj f=true
 hs:dv f=true
def CF (f:ad) (iw js bm jd jl jm jp:Nat) (K:KS) (M:List Int) (T:List (gH × Int)) (D:List Int):OL:=[(iw,.cells 75 (lm f (gN f) (sO f) js jp K.p.length (dw bm) (.own jd f.blocks.length))),(js,.cells 136 [.int .i64 ((f.vars.length+1:Nat):Int),.own jl K.l.length,.own jm M.length]),(jl,.grow 3 180 (K.l.map bf).flatten),(jm,.grow 1 3 (cI M)),(jp,.grow 2 187 (K.p.map cD).flatten),(0,jU m0 bm T),(jd,.grow 1 3 (cI D))]
def Cg (E:World) (f:ad) (iw js bm jd:Nat) (m:Nat):Prop:=
 ∀(i:Nat) (b:aY) (V:Int→Bool) (jl jm jp:Nat) (K:KS) (M:List Int) (T:List (gH × Int)),f.blocks[i]?=some b→(f.blocks.length:Int) - gi (bT (ah f) f.blocks.length) i<m→Fd f V i→K=qE f (upT f i).tail→KB f K→Hj f K i→(M.length:Int)≤gi (bT (ah f) f.blocks.length) i→gh f (fun m=>V m.1) T →
  aR prog E 38 [.po iw 0,.int .i64 i] (CF f iw js bm jd jl jm jp K M T (fx f V)) (fun y O=>∃g:Nat × Nat × Nat × List (gH × Int),y=.tup []∧O=CF f iw js bm jd g.1 g.2.1 g.2.2.1 K M g.2.2.2 (fx f fun j=>V j||er (ah f) f.blocks.length i j)∧gh f (fun m=>V m.1||er (ah f) f.blocks.length i m.1) g.2.2.2)
theorem uU (f:ad) (hR:bE f) (iw js bm jd:Nat):Cg E f iw js bm jd 0:=by
 intro i b V jl jm jp K M T hb hm _ _ _ _ _ _
 have:=hR.lev (i:=i) (List.getElem?_eq_some_iff.1 hb).1
 omega
set_option maxHeartbeats 32000000 in
theorem uV (f:ad) (hA:GL f E) (iw js bm jd mm:Nat) (ih:Cg E f iw js bm jd mm):Cg E f iw js bm jd (mm+1):=by
 intro i b V jl jm jp K M T hb hm hV hKw hKB hPB hML hT
 obtain ⟨hf,hL,hR,ht,hs⟩:=hA
 have hi:=(List.getElem?_eq_some_iff.1 hb).1
 have hE:=hR.hE
 have hG:=hE.grph
 have hall:∀j:Int,0≤j→j<f.blocks.length→j∈aA (ah f) f.blocks.length:=fun j h0 h1=>hR.memO ⟨h0,h1⟩
 have ho:=hall i (by omega) (by omega)
 have hlv:=hR.lev hi
 have hnb:=hR.nblk
 have hVi:V (i:Int)=false:=hV.2 i (.refl (hR.hs.2.1 i hi))
 have hbm:=qu hb
 have hbe:f.blocks[i]=b:=(List.getElem?_eq_some_iff.1 hb).2
 have hbg:=fw hb
 have hvars:=hf.1
 obtain ⟨hf1,hf2,hf3,hf4,hf5⟩:=id hf
 obtain ⟨hb0,hb1,hb2,hb3,hb4⟩:=hf5 b hbm
 have hsm:=jE _ _ hbm
 have hsh:=hR.hS.2.2.2.2.1
 have hInF:=hR.blkF (i:=(i:Int)) (by omega) (by omega)
 rw[hbg] at hInF
 have hKl:=hKB.len
 obtain ⟨K0,hK0⟩:∃K0,fK f K i=K0:=⟨_,rfl⟩
 have hK0B:KB f K0:=hK0▸hKB.entr hR i
 have hK0p:K0.p=K.p:=by rw[←hK0];exact pC _ _
 have hbegK:gX f i=K0:=by unfold gX;rw[←hKw];exact hK0
 have hat:∀k,FA f (i:Int) k=(b.insts.take k).foldl (dk f) K0:=fun k=>by unfold FA;rw[hbg,←hKw,hK0]
 have hstB:∀k,KB f ((b.insts.take k).foldl (dk f) K0):=fun k=>KB.stps _ _ hK0B fun x hx=>hInF x (List.mem_of_mem_take hx)
 have hstP:∀k,uB ((b.insts.take k).foldl (dk f) K0).p:=fun k=>by
  obtain ⟨g1,g2,_⟩:=wt (f:=f) (b.insts.take k) K0 (fun x hx=>hb4 x (List.mem_of_mem_take hx)) (by rw[hK0p];exact hPB.2)
  have h1:=hPB.1
  have h2:(b.insts.take k).length≤b.insts.length:=by rw[List.length_take];omega
  rw[hK0p] at g1
  exact ⟨by omega,g2⟩
 refine yu (γ:=Nat × Nat × Nat × List (gH × Int)) (x:=fun _=>.tup []) (M:=fun g=>CF f iw js bm jd g.1 g.2.1 g.2.2.1 K M g.2.2.2 (fx f fun j=>V j||er (ah f) f.blocks.length i j)) (p:=fun g=>gh f (fun m=>V m.1||er (ah f) f.blocks.length i m.1) g.2.2.2) ?_
 have push:=wa (E:=E) js jl jm (f.vars.length+1) K.l M (by omega) (by omega)
 have rel:=fun jm M=>Aa (E:=E) (t:=gN f) (a9:=dw bm) (a10:=.own jd f.blocks.length) (iw:=iw) (js:=js) (jl:=jl) (jm:=jm) (jp:=jp) (M:=M) hf hL hR ht hs hKB hi
 have made:=fun jl jm jp K M hK hP x hF hty=>we (E:=E) (f:=f) (K:=K) (t:=gN f) (pr:=sO f) (a9:=dw bm) (a10:=.own jd f.blocks.length) (iw:=iw) (js:=js) (jl:=jl) (jm:=jm) (jp:=jp) (M:=M) hvars hK hP x hF hty
 have pass:=fun jl jm jp K M hK hP x hF hc=>wg (E:=E) (f:=f) (K:=K) (t:=gN f) (pr:=sO f) (a9:=dw bm) (a10:=.own jd f.blocks.length) (iw:=iw) (js:=js) (jl:=jl) (jm:=jm) (jp:=jp) (M:=M) hvars hK hP x hF hc
 have prv:=fun jl jm jp K M (hK:KB f K) (hP:uB K.p) x (hF:dg f x) (hc:18≤x.op∧x.op≤24)=>k5 (a9:=dw bm) (a10:=.own jd f.blocks.length) (iw:=iw) (js:=js) (jl:=jl) (jm:=jm) (jp:=jp) (M:=M) (fun _ _ _ h=>fp h) (sE (E:=E) (t:=gN f) (pr:=sO f) hvars hK hP x hF hc)
 unfold CF
 unfold Cg CF at ih
 unfold pV at push
 unfold iu at rel made pass prv
 refine zq func38 U (by decide) U<|ae<|aE U<|aw U<|za (zn je U Z8 (by decide) U U)<|za (zt (c:=.po _ _) Zg U ⟨_,.head⟩ U)<|zr U (zh (.r (.l (.l (.l (.r (.r (.r (.rest _))))))))) (push) ?_
 rintro r14 O14 ⟨jm1,rfl,rfl,_⟩
 refine z6<|y3 (zb (zc .t6))<|y3 (zb (zc .t6))<|y3 (zb (zc .t6))<|y3 (zb (zc .t5))<|y3 (zb (zc .t5))<|y3 (zb (zc .t5))<|y3 (zb (zc .t6))<|ae<|aE U<|aw U<|za (zn je U sizeOf72 (by decide) U U)<|za (zt (c:=.own _ _) isAgg72 U ⟨_,.head⟩ U)<|za (Gv.lenO Xb U)<|ap U<|z6<|ae<|aE U<|aa U<|zr U (zh (.l (.l (.l (.l (.l (.r (.r (.rest _))))))))) (rel jm1 (M++[(K.l.length:Int)])) ?_
 rintro r22 O22 ⟨jl1,rfl,rfl,_⟩
 refine z6 ?_
 rw[hK0]
 refine y3 (zb (zc .t6))<|y3 (zb (zc .t6))<|y3 (zb (zc .t6))<|y3 (zb (zc .t6))<|y3 (zb (zc .t6))<|y3 (zb (zc .t6))<|y3 (zb (zc .t6))<|ae<|aE U<|aw U<|za (zn je U jf (by decide) U U)<|za (zn jg U Z6 (by decide) U U)<|za (zt (c:=.fro _ _) Zd U ⟨_,.head⟩ U)<|aa U<|za (bh i jk Z0 U U U hb)<|ac Yk Z0 U U<|y6 (cs:=[.str ⟨#[]⟩,.raw (.slice none 0 0),.raw (.slice none 0 0),.int .i64 0,.int .i64 0,.int .i64 0,.int .i64 0]) Zn U U<|fun i5=>y1 Z0 U U U U U U .head U<|zf (yf (t:=5) U .head)<|z6<|zd<|ae<|ao jj U Zo U U<|aI Zx U<|ar jz U<|aa U<|z6 ?_
 have hT0:gh f (Dk V i 0) T:=hT.congr fun m hm=>by
  unfold kD at hm
  rw[qz] at hm
  have h0:=w4 hm.1
  unfold Dk
  rw[qy (show ¬m.2<((0:Nat):Int) by omega),Bool.and_false,Bool.or_false]
 obtain ⟨M1,hM1⟩:∃M1,M++[(K.l.length:Int)]=M1:=⟨_,rfl⟩
 have hM1l:(M1.length:Int)=M.length+1:=by rw[←hM1];simp
 rw[hM1]
 refine zj<|y8 (γ:=Nat × Nat × Nat × List (gH × Int)) [0,1,4,5,32,33] (fun g=>[(34,.int .i64 g.1)]) (fun g=>[(iw,.cells 75 (lm f (gN f) (sO f) js g.2.2.1 ((b.insts.take g.1).foldl (dk f) K0).p.length (dw bm) (.own jd f.blocks.length))),(js,.cells 136 [.int .i64 ((f.vars.length+1:Nat):Int),.own g.2.1 ((b.insts.take g.1).foldl (dk f) K0).l.length,.own jm1 M1.length]),(g.2.1,.grow 3 180 (((b.insts.take g.1).foldl (dk f) K0).l.map bf).flatten),(jm1,.grow 1 3 (cI M1)),(g.2.2.1,.grow 2 187 (((b.insts.take g.1).foldl (dk f) K0).p.map cD).flatten),(0,jU m0 bm g.2.2.2),(jd,.grow 1 3 (cI (fx f V)))]) (fun g=>g.1≤b.insts.length∧gh f (Dk V i g.1) g.2.2.2) (fun g=>b.insts.length - g.1) (0,jl1,jp,T) aH aD (⟨qn _,hT0⟩) ?_
 rintro ⟨k,jq,jr,T1⟩ ⟨hk,hT1⟩
 try dsimp only at *
 obtain ⟨Q,hQ⟩:∃Q,(b.insts.take k).foldl (dk f) K0=Q:=⟨_,rfl⟩
 have hQB:=hstB k
 have hQP:=hstP k
 have hatk:=hat k
 rw[hQ] at hQB hQP hatk
 rw[hQ]
 refine ae<|ax U U<|z6<|zd<|zu U (fun ck=>?_) (fun ck=>?_)
 ·have hk2:k<b.insts.length:=by simp at ck;omega
  obtain ⟨x,hx⟩:∃x,b.insts[k]?=some x:=⟨_,qk hk2⟩
  have hxm:=qu hx
  have hF:=hInF x hxm
  have hstep:(b.insts.take (k+1)).foldl (dk f) K0=dk f Q x:=by rw[List.take_add_one,hx,List.foldl_append,hQ];rfl
  have hpv:kD f ((i:Int),(k:Int))=(kC x&&kB f Q x):=by rw[uH hb hx,hatk]
  refine zg<|zd<|zj<|ae<|aa U<|za (bh k jz jv U U U hx)<|ac Zk jv U U<|y6 (cs:=[.int .i64 0,.int .i64 0,.raw (.slice none 0 0),.int .i64 0]) Z4 U U<|fun i7=>ap U<|y1 jv U U U U U U .head U<|zf (yf (t:=7) U .head)<|z6<|zd<|ae<|ao j5 U jy U U<|ay Z2 U<|ze (pJ x.op) U<|aB U<|z6<|zy U (fun c=>?_) (fun c=>?_)
  ·have c:¬(18≤x.op∧x.op≤24):=by simp at c;omega
   have hty:aZ f x.dst=true∨¬x.op=1:=by
    by_cases e:x.op=1
    ·exact .inl (lR (hF.d e rfl))
    ·exact .inr e
   refine ae<|aE U<|ac Zk jv U U<|zr U (zh (.l (.l (.l (.l (.l (.r (.r (.rest _))))))))) (made jq jm1 jr Q M1 hQB hQP x hF hty) ?_
   rintro r45 O45 ⟨j1,rfl,rfl,_⟩
   refine z6<|y3 (zb (zc .t6))<|y3 (zb (zc .t6))<|y3 (zb (zc .t6))<|y3 (zb (zc .t6))<|y3 (zb (zc .t6))<|y3 (zb (zc .t6))<|y3 (zb (zc .t6))<|y7<|aO<|aC U U<|aa U<|z6 ?_
   exact ⟨(k+1,j1,jr,T1),nu,aH,⟨_,(.refl _),by dsimp only;rw[hstep,dk,if_neg c]⟩,⟨hk2,hT1.skip (by rw[hpv,show kC x=false from qy c];rfl)⟩,by dsimp only;omega⟩
  ·have c:18≤x.op∧x.op≤24:=by simpa using c
   have hck:kC x=true:=qx c
   rw[hck,Bool.true_and] at hpv
   refine zg<|zd<|ae<|aE U<|ac Zk jv U U<|zr U (zh (.l (.l (.l (.l (.l (.r (.r (.rest _))))))))) (prv jq jm1 jr Q M1 hQB hQP x hF c) ?_
   rintro r48 O48 ⟨rfl,rfl⟩
   refine z6<|y3 (zb (zc .t6))<|y3 (zb (zc .t6))<|y3 (zb (zc .t6))<|y3 (zb (zc .t6))<|y3 (zb (zc .t6))<|y3 (zb (zc .t6))<|y3 (zb (zc .t6))<|ya (γ:=List (gH × Int)) [0,1,4,5,7,32,33,34] (fun g=>[]) (fun g=>[(iw,.cells 75 (lm f (gN f) (sO f) js jr Q.p.length (dw bm) (.own jd f.blocks.length))),(js,.cells 136 [.int .i64 ((f.vars.length+1:Nat):Int),.own jq Q.l.length,.own jm1 M1.length]),(jq,.grow 3 180 (Q.l.map bf).flatten),(jm1,.grow 1 3 (cI M1)),(jr,.grow 2 187 (Q.p.map cD).flatten),(0,jU m0 bm g),(jd,.grow 1 3 (cI (fx f V)))]) (fun g=>gh f (Dk V i (k+1)) g) ?_ (fun _ _ h=>h) ?_
   ·refine zy U (fun cp=>?_) (fun cp=>?_)
    ·refine aO<|aE U<|aw U<|za (zn je U sizeOf73 (by decide) U U)<|za (zt (c:=dw _) isAgg73 U ⟨_,.head⟩ U)<|aa U<|aa U<|za (y5 (cps:=[(0,[_]),(1,[_])]) (rs:=[_,_]) BB U U U)<|az.mapSetS (k:=((i:Int),(k:Int))) B4 underlying73 U U U .t5<|z6 ?_
     exact ⟨bW T1 ((i:Int),(k:Int)) 1,(by repeat (first|with_reducible exact zp _ _|refine zz rfl ?_)),trivial,aD,hT1.put hVi (hpv.trans cp)⟩
    ·refine zg ?_
     exact ⟨T1,(by repeat (first|with_reducible exact zp _ _|refine zz rfl ?_)),trivial,aD,hT1.skip (hpv.trans cp)⟩
   ·rintro T2 hT2
    refine aO<|aE U<|ac Zk jv U U<|zr U (zh (.l (.l (.l (.l (.l (.r (.r (.rest _))))))))) (pass jq jm1 jr Q M1 hQB hQP x hF c) ?_
    rintro r58 O58 ⟨⟨j1,j2⟩,rfl,rfl,_⟩
    refine z6<|y3 (zb (zc .t6))<|y3 (zb (zc .t6))<|y3 (zb (zc .t6))<|y3 (zb (zc .t6))<|y3 (zb (zc .t6))<|y3 (zb (zc .t6))<|y3 (zb (zc .t6))<|aO<|aC U U<|aa U<|z6 ?_
    exact ⟨(k+1,j1,j2,T2),nu,aH,⟨_,(.refl _),by dsimp only;rw[hstep,dk,if_pos c]⟩,⟨hk2,hT2⟩,by dsimp only;omega⟩
 ·obtain rfl:k=b.insts.length:=by simp at ck;omega
  have hQe:nI f (gX f i) i=Q:=by unfold nI;rw[hbegK,hbg,←hQ,qp]
  obtain ⟨p1,p2,pm,p3⟩:=wt (f:=f) (b.insts.take b.insts.length) K0 (fun x hx=>hb4 x (List.mem_of_mem_take hx)) (by rw[hK0p];exact hPB.2)
  rw[hQ,hK0p] at p1 p3
  rw[hQ] at p2
  have hpre:∃l,Q.l=K.l++l:=eJ (hK0▸uT _ K) (hQ▸uS _ K0)
  have hTl:=hT1.last hb
  have hv0:(fun m:gH=>V m.1||decide (m.1=(i:Int)))=fun m=>gT f V i [] m.1:=by funext m;unfold gT;simp
  rw[hv0] at hTl
  have hds:(fx f V).set i (iK f i)=fx f (gT f V i []):=BX hi (by unfold gT;simp) (fun j hj=>by unfold gT;simp[hj])
  refine y7<|zd<|ae<|ao jj U Zm U U<|ao jh U Zz U U<|ay Y8 U<|ai U U<|z6<|ya (γ:=Unit) [0,1,4] (fun u=>[]) (fun u=>[(iw,.cells 75 (lm f (gN f) (sO f) js jr Q.p.length (dw bm) (.own jd f.blocks.length))),(js,.cells 136 [.int .i64 ((f.vars.length+1:Nat):Int),.own jq Q.l.length,.own jm1 M1.length]),(jq,.grow 3 180 (Q.l.map bf).flatten),(jm1,.grow 1 3 (cI M1)),(jr,.grow 2 187 (Q.p.map cD).flatten),(0,jU m0 bm T1),(jd,.grow 1 3 (cI (fx f (gT f V i []))))]) (fun u=>True) ?_ (fun _ _ h=>h) ?_
  ·refine zu U (fun ct=>?_) (fun ct=>?_)
   ·have ct:b.term.kind=1:=ct
    have hvk:aZ f b.term.var=true:=by
     have h1:=(hR.run.term _ hbm)
     unfold bM at h1
     rw[if_neg (by omega),if_pos ct] at h1
     simp only[qz] at h1
     exact h1.1.1
    have hdo:dK f Q b.term.var=iK f i:=by unfold iK;rw[hbg,if_pos ct,hQe];rfl
    have dec:=fun bk=>Af (E:=E) (t:=gN f) (pr:=sO f) (a9:=dw bm) (a10:=.own jd f.blocks.length) (iw:=iw) (js:=js) (jl:=jq) (jm:=jm1) (jp:=jr) (M:=M1) hR hvars hQB bk hvk
    unfold iu at dec
    rw[hdo] at dec
    refine zw (fun j=>Nat.beq j 12) (by kernel_rfl) U (zh (.rest _))<|ak 0 U (ef U)<|ak 1 U (yb U)<|ak 2 U (zn je U j8 (by decide) U U)<|ak 4 U (dq U)<|ak 5 U (ef U)<|ak 6 U (bx jj U Zm U U)<|ak 7 U (bx jh U j6 U U)<|ak 8 U (b7 j7 U)<|yq (i:=3) (j:=9) U U (by kernel_rfl) ?_ ?_
    ·refine za (zt (c:=.own _ _) j9 U ⟨_,.head⟩ U)<|z6<|ba 9 U<|az.makeMapA<|fun b73=>zf (zb (zc .t5))<|zf (zb (zc .t5))<|zf (zb (zc .t5))<|zf (zb (zc .t5))<|zf (zb (zc .t5))<|z6<|ba 10 U<|zr U (zh (.l (.l (.l (.l (.l (.l (.r (.r (.rest _)))))))))) (dec b73) ?_
     rintro r74 O74 ⟨_,⟨es,rfl,rfl⟩,rfl⟩
     refine z6<|ba 11 U<|za (yp (j:=i) wz j6 U U U ⟨_,.t7⟩ ((aQ _).trans (eY f V)) hi)<|z6<|ym<|yi (i:=12) U (by kernel_rfl) (by kernel_rfl)<|q6 (j:=i) j6 U U .t7 (by rw[eY];exact hi)<|z6<|yo (by kernel_rfl) ?_
     exact ⟨(),(by repeat (first|with_reducible exact zp _ _|refine zz rfl ?_)),trivial,⟨_,(.keep (.keep (.keep (.keep (.keep (.drop (.refl _))))))),by rw[hds]⟩,trivial⟩
    ·refine az.makeMapA<|fun b73=>zf (zb (zc .t5))<|zf (zb (zc .t5))<|zf (zb (zc .t5))<|zf (zb (zc .t5))<|zf (zb (zc .t5))<|z6<|yq (i:=3) (j:=10) U U (by kernel_rfl) ?_ ?_
     ·refine za (zt (c:=.own _ _) j9 U ⟨_,.head⟩ U)<|z6<|ba 10 U<|zr U (zh (.l (.l (.l (.l (.l (.l (.r (.r (.rest _)))))))))) (dec b73) ?_
      rintro r74 O74 ⟨_,⟨es,rfl,rfl⟩,rfl⟩
      refine z6<|ba 11 U<|za (yp (j:=i) wz j6 U U U ⟨_,.t7⟩ ((aQ _).trans (eY f V)) hi)<|z6<|ym<|yi (i:=12) U (by kernel_rfl) (by kernel_rfl)<|q6 (j:=i) j6 U U .t7 (by rw[eY];exact hi)<|z6<|yo (by kernel_rfl) ?_
      exact ⟨(),(by repeat (first|with_reducible exact zp _ _|refine zz rfl ?_)),trivial,⟨_,(.keep (.keep (.keep (.keep (.keep (.drop (.refl _))))))),by rw[hds]⟩,trivial⟩
     ·refine zr U (zh (.l (.l (.l (.l (.l (.l (.r (.r (.rest _)))))))))) (dec b73) ?_
      rintro r74 O74 ⟨_,⟨es,rfl,rfl⟩,rfl⟩
      refine z6<|ba 3 U<|za (zt (c:=.own _ _) j9 U ⟨_,.head⟩ U)<|z6<|ba 11 U<|za (yp (j:=i) wz j6 U U U ⟨_,.t7⟩ ((aQ _).trans (eY f V)) hi)<|z6<|ym<|yi (i:=12) U (by kernel_rfl) (by kernel_rfl)<|q6 (j:=i) j6 U U .t7 (by rw[eY];exact hi)<|z6<|yo (by kernel_rfl) ?_
      exact ⟨(),(by repeat (first|with_reducible exact zp _ _|refine zz rfl ?_)),trivial,⟨_,(.keep (.keep (.keep (.keep (.keep (.drop (.refl _))))))),by rw[hds]⟩,trivial⟩
   ·have ct:¬b.term.kind=1:=ct
    have hdo:iK f i=0:=by unfold iK;rw[hbg,if_neg ct]
    have hsame:fx f V=fx f (gT f V i []):=by
     rw[←hds,hdo]
     refine List.ext_getElem? fun q=>?_
     by_cases e:i=q
     ·subst e
      rw[List.getElem?_set_self (by rw[eY];exact hi),ms hi,hVi];rfl
     ·rw[List.getElem?_set_ne e]
    refine zg ?_
    exact ⟨(),(by repeat (first|with_reducible exact zp _ _|refine zz rfl ?_)),trivial,⟨_,(.refl _),by rw[hsame]⟩,trivial⟩
  ·rintro u _
   obtain ⟨kl,hkl⟩:∃kl,dY (ah f) f.blocks.length i=kl:=⟨_,rfl⟩
   have hkn2:kl.Nodup:=hkl▸wi (i:Int)
   have hkm:∀c∈kl,c∈dY (ah f) f.blocks.length i:=fun c hc=>by rw[hkl];exact hc
   have hkll:kl.length≤1000:=by
    rw[←hkl];unfold dY
    exact Nat.le_trans (List.length_filter_le _ _) (by rw[bA];exact hf3)
   have hkids:=wr (E:=E) f hE hf3 hi ho .any
   rw[hkl] at hkids
   refine zd<|ae<|aE U<|aw U<|za (zn je U sizeOf68 (by decide) U U)<|za (zt (c:=.pf _) isAgg68 U ⟨_,.head⟩ U)<|aa U<|ze (hkids) U<|ar wz U<|aa U<|z6<|zj<|y8 (γ:=Nat × Nat × Nat × Nat × List (gH × Int)) [0,4,81,82] (fun g=>[(83,.int .i64 g.1)]) (fun g=>[(iw,.cells 75 (lm f (gN f) (sO f) js g.2.2.2.1 Q.p.length (dw bm) (.own jd f.blocks.length))),(js,.cells 136 [.int .i64 ((f.vars.length+1:Nat):Int),.own g.2.1 Q.l.length,.own g.2.2.1 M1.length]),(g.2.1,.grow 3 180 (Q.l.map bf).flatten),(g.2.2.1,.grow 1 3 (cI M1)),(g.2.2.2.1,.grow 2 187 (Q.p.map cD).flatten),(0,jU m0 bm g.2.2.2.2),(jd,.grow 1 3 (cI (fx f (gT f V i (kl.take g.1)))))]) (fun g=>g.1≤kl.length∧gh f (fun m=>gT f V i (kl.take g.1) m.1) g.2.2.2.2) (fun g=>kl.length - g.1) (0,jq,jm1,jr,T1) aH aD (⟨qn _,hTl⟩) ?_
   rintro ⟨q,ja,jb,jc,T2⟩ ⟨hq,hT2⟩
   try dsimp only at *
   refine ae<|ax U U<|z6<|zd<|zu U (fun cq=>?_) (fun cq=>?_)
   ·have hq2:q<kl.length:=by simp at cq;omega
    have hcm:=hkm _ (qo hq2)
    obtain ⟨⟨c0,c1⟩,cne,cnear⟩:=(pA hG hall (by omega)).1 hcm
    obtain ⟨cn,hcn⟩:∃cn:Nat,kl[q]=(cn:Int):=⟨kl[q].toNat,by omega⟩
    have hcl2:cn<f.blocks.length:=by omega
    obtain ⟨hk1,hk2,hk3,hk4⟩:=k8 hG hall (by omega) hcm
    have hVc:=DG hG hall (by omega) hV hq2 hkm hkn2
    rw[hcn] at hk1 hk4 hVc cnear cne
    have hway:Q=qE f (upT f cn).tail:=by rw[DH hR ⟨by omega,by omega⟩ cne cnear,hQe]
    have hPBc:Hj f Q (cn:Int):=by
     have h1:=hPB.1
     rw[qp] at p1
     exact ⟨by rw[hk4];omega,p2⟩
    have hvn:(fun m:gH=>gT f V i (kl.take q) m.1||er (ah f) f.blocks.length cn m.1)=fun m=>gT f V i (kl.take (q+1)) m.1:=by funext m;rw[←hcn];exact uG hq2 m.1
    have hvn2:(fun j:Int=>gT f V i (kl.take q) j||er (ah f) f.blocks.length cn j)=gT f V i (kl.take (q+1)):=by funext j;rw[←hcn];exact uG hq2 j
    refine zg<|zd<|zj<|ae<|za (bh q wz j6 U U U (by rw[qk hq2,hcn])) ?_
    refine ay j7 U<|ap U<|z6<|aO<|aE U<|aa U<|zr U (zh (.l (.l (.l (.l (.l (.l (.l (.rest _))))))))) (ih cn f.blocks[cn] (gT f V i (kl.take q)) ja jb jc Q M1 T2 (qk hcl2) (by omega) hVc hway hQB hPBc (by omega) hT2) ?_
    rintro r89 O89 ⟨⟨j1,j2,j3,T3⟩,rfl,rfl,h1⟩
    refine z6<|aO<|aC U U<|aa U<|z6 ?_
    exact ⟨(q+1,j1,j2,j3,T3),fl,aH,⟨_,(.refl _),by dsimp only;rw[hvn2,qw]⟩,⟨hq2,by rw[←hvn];exact h1⟩,by dsimp only;omega⟩
   ·obtain rfl:q=kl.length:=by simp at cq;omega
    rw[qp] at hT2
    rw[qp]
    obtain ⟨lq,hlq⟩:=hpre
    have htk:((Q.p.map cD).flatten).take (K.p.length*2)=(K.p.map cD).flatten:=by
     rw[p3,qv,List.flatten_append,List.take_append_of_le_length (by rw[nT];exact Nat.le_refl _),List.take_of_length_le (by rw[nT];exact Nat.le_refl _)]
    have hdec:fx f (gT f V i kl)=fx f fun j=>V j||er (ah f) f.blocks.length i j:=wj fun j h0 h1=>by rw[←hkl];exact xv hG hall (by omega) h0 h1
    have hTf:gh f (fun m=>V m.1||er (ah f) f.blocks.length i m.1) T2:=hT2.congr fun m hm=>by
     unfold kD at hm
     rw[qz] at hm
     have h0:=w4 hm.1
     have h1:m.1<f.blocks.length:=Classical.byContradiction fun hn=>by
      have h2:=hm.2
      have h3:(gW f m.1).insts=[]:=by unfold gW;rw[List.getElem?_eq_none (by omega)];rfl
      rw[h3] at h2
      simp at h2
     rw[←hkl];exact xv hG hall (by omega) h0.1 h1
    have pop:=zS (E:=E) js ja jb (f.vars.length+1) Q.l M K.l.length (by rw[hlq,qq];omega) (by omega)
    rw[hM1] at pop
    have hlt:Q.l.take K.l.length=K.l:=by rw[hlq,List.take_left]
    rw[hlt] at pop
    unfold pV at pop
    refine y7<|ae<|aE U<|aE U<|aw U<|za (zn je U sizeOf72 (by decide) U U)<|za (zt (c:=.own _ _) isAgg72 U ⟨_,.head⟩ U)<|aa U<|az.cutTo (j:=K.p.length) Xb sizeOf187 U U U .t4 (by decide) (by rw[nT,p3,qq];omega)<|aw U<|za (zn je U sizeOf72 (by decide) U U)<|yw (l:=[_]) (new:=[_,_,_,_,_,_,_,_,_,_,_]) sizeOf72 U U U U U U .head U U<|z6<|aO<|aE U<|aw U<|za (zn je U Z8 (by decide) U U)<|za (zt (c:=.po _ _) Zg U ⟨_,.head⟩ U)<|zr U (zh (.r (.l (.l (.l (.r (.r (.r (.rest _))))))))) (pop) ?_
    rintro r104 O104 ⟨rfl,rfl⟩
    refine z6<|ye (zb (zc .t6))<|ye (zb (zc .t6))<|ye (zb (zc .t6))<|ye (zb (zc .t5))<|ye (zb (zc .t5))<|ye (zb (zc .t5))<|ye (zb (zc .t6))<|yh ?_
    exact ⟨(ja,jb,jc,T2),rfl,⟨_,.refl _,by rw[htk,hdec];rfl⟩,hTf⟩
theorem pK (f:ad) (hA:GL f E) (iw js bm jd:Nat):∀m,Cg E f iw js bm jd m
 |0=>uU f hA.hR iw js bm jd
 |m+1=>uV f hA iw js bm jd m (pK f hA iw js bm jd m)
end Go.Proofs.YtdilpodccjlkgaaGreatDoor
namespace Go.Proofs.YtdilpodccjlkgaaGreatDoor
open Go.Proofs.Tryz
open Go.Proofs Go.Lib Go.Shelf Go.RowKit
variable {E:World}
set_option maxRecDepth 20000
theorem wu {f:ad} (K:KS) (v:Int):(dU f K v).p=K.p:=by
 unfold dU;repeat' split
 ·rw[cG,cG]
 ·exact jF ..
 ·rfl
theorem sQ {f:ad}:∀(l:List Int) (K:KS),(l.foldl (dU f) K).p=K.p
 |[],_=>rfl
 |v::l,K=>by rw[List.foldl_cons,sQ l,wu]
theorem wv {f:ad} {K:KS} (h:KB f K) {v:Int} (hv:aJ f v):KB f (dU f K v):=by
 unfold dU
 split
 ·exact (h.add hv d5).add d5 hv
 ·split
  ·exact h.both hv d5
  ·exact h
theorem Ch {f:ad}:∀(l:List Int) (K:KS),KB f K→(∀v∈l,aJ f v)→KB f (l.foldl (dU f) K)
 |[],_,h,_=>h
 |v::l,K,h,hl=>by rw[List.foldl_cons];exact Ch l _ (wv h (hl v (.head _))) fun u hu=>hl u (.tail _ hu)
set_option maxHeartbeats 4000000 in
theorem uW {f:ad} {t pr a9 a10:AV} {iw js jl jm jp:Nat} {M:List Int} (hf:small f) :
  aR prog E 37 [.po iw 0] (iu f t pr a9 a10 iw js jl jm jp ⟨[],[]⟩ M) (fun y O=>∃g:Nat,y=.tup []∧O=iu f t pr a9 a10 iw js g jm jp (cT f) M∧True):=by
 refine yu (γ:=Nat) (x:=fun g=>.tup []) (M:=fun g=>iu f t pr a9 a10 iw js g jm jp (cT f) M) (p:=fun _=>True) ?_
 have add:=fun jl K hK a b (ha:aJ f a) (hb:aJ f b) c=>gx (E:=E) (js:=js) (jm:=jm) (M:=M) jl K hK ha hb c
 have same:=fun jl K hK a b (ha:aJ f a) (hb:aJ f b)=>lO (E:=E) (t:=t) (pr:=pr) (a9:=a9) (a10:=a10) (iw:=iw) (js:=js) (jm:=jm) (M:=M) jl jp 0 K hK ha hb
 have hvars:=hf.1
 have hf1:cT f=(aU f.vars.length).foldl (dU f) ⟨[],[]⟩:=rfl
 rw[hf1]
 unfold iu at *
 refine zq func37 U (by decide) U<|ae<|aE U<|aw U<|za (zn je U jf (by decide) U U)<|za (zn jg U Y4 (by decide) U U)<|za (zt (c:=.fro _ _) Yb U ⟨_,.head⟩ U)<|ar Z7 U<|aa U<|z6<|zj<|y8 (γ:=Nat × Nat) [0,8,9] (fun g=>[(10,.int .i64 g.1)]) (fun g=>[(iw,.cells 75 (lm f t pr js jp (⟨[],[]⟩:KS).p.length a9 a10)),(js,.cells 136 [.int .i64 ((f.vars.length+1:Nat):Int),.own g.2 (((aU f.vars.length).take g.1).foldl (dU f) ⟨[],[]⟩).l.length,.own jm M.length]),(g.2,.grow 3 180 ((((aU f.vars.length).take g.1).foldl (dU f) ⟨[],[]⟩).l.map bf).flatten),(jm,.grow 1 3 (cI M)),(jp,.grow 2 187 ((⟨[],[]⟩:KS).p.map cD).flatten)]) (fun g=>g.1≤f.vars.length) (fun g=>f.vars.length - g.1) (0,jl) aH aD (qn _) ?_
 rintro ⟨v,jq⟩ hv
 try dsimp only at *
 have hKB:KB f (((aU f.vars.length).take v).foldl (dU f) ⟨[],[]⟩):=Ch _ _ (KB.emp f) fun u hu=>by
  have:=cM.1 (List.mem_of_mem_take hu)
  exact ⟨this.1,by omega⟩
 have hKp:=sQ (f:=f) ((aU f.vars.length).take v) ⟨[],[]⟩
 refine ae<|ax U U<|z6<|zd<|zu U (fun cv=>?_) (fun cv=>?_)
 ·have hv2:v<f.vars.length:=by simp at cv;omega
  have hvv:aZ f (v:Int)=true:=by unfold aZ;simp;omega
  have hvN:aJ f (v:Int):=⟨by omega,by omega⟩
  have nn:aJ f (bQ f):=d5
  obtain ⟨vr,hx,hvt,hkt⟩:=iA hvv
  clear hvt
  rw[Int.toNat_natCast] at hx
  obtain ⟨_,hmk⟩:=fS hvv
  rw[Int.toNat_natCast] at hmk
  have hstep:((aU f.vars.length).take (v+1)).foldl (dU f) ⟨[],[]⟩=dU f (((aU f.vars.length).take v).foldl (dU f) ⟨[],[]⟩) (v:Int):=by rw[List.take_add_one,e9 hv2,List.foldl_append];rfl
  obtain ⟨Q,hQ⟩:∃Q,((aU f.vars.length).take v).foldl (dU f) ⟨[],[]⟩=Q:=⟨_,rfl⟩
  rw[hQ] at hKB hKp hstep
  rw[hQ]
  refine zg<|zd<|zj<|ae<|aa U<|za (bh v Z7 Y1 U U U hx)<|ac isAgg61 Y1 U U<|y6 (cs:=[.str ⟨#[]⟩,.int .i64 0]) X7 U U<|fun i3=>ap U<|y1 Y1 U U U U U U .head U<|zf (yf (t:=3) U .head)<|z6<|zj<|ae<|ao Zi U Yq U U<|ay X4 U<|ai U U<|ab U<|z6<|zu U (fun c2=>?_) (fun c2=>?_)
  ·have hre:dU f Q (v:Int)=cQ (cQ Q (v:Int) (bQ f) 64) (bQ f) (v:Int) 0:=by unfold dU;rw[if_pos (hkt.trans c2)]
   refine zd<|zw (fun j=>false) (by kernel_rfl) U (zh (.r (.rest _)))<|ak 0 U (ef U)<|ak 1 U (yb U)<|ak 2 U (zn je U Z8 (by decide) U U)<|ak 3 U (zt (c:=.po _ _) Zg U ⟨_,.head⟩ U)<|ak 4 U (dq U)<|ak 5 U (ef U)<|ak 6 U (yb U)<|ak 7 U (zn je U j6 (by decide) U U)<|ak 8 U (zt (c:=.int _ _) j7 U ⟨_,.head⟩ U)<|ba 9 U<|zr U (zh (.l (.l (.l (.r (.rest _)))))) (add jq Q hKB _ _ hvN nn 64) ?_
   rintro r28 O28 ⟨⟨j1,u1⟩,rfl,rfl,_⟩
   refine z6<|bY<|y3 (zb (zc .t4))<|y3 (zb (zc .t4))<|y3 (zb (zc .t4))<|y3 (zb (zc .t4))<|y3 (zb (zc .t4))<|zw (fun j=>false) (by kernel_rfl) U (zh (.r (.rest _)))<|ak 0 U (ef U)<|ak 1 U (yb U)<|ak 2 U (zn je U Z8 (by decide) U U)<|ak 3 U (zt (c:=.po _ _) Zg U ⟨_,.head⟩ U)<|ak 4 U (ef U)<|ak 5 U (yb U)<|ak 6 U (zn je U j6 (by decide) U U)<|ak 7 U (zt (c:=.int _ _) j7 U ⟨_,.head⟩ U)<|ak 8 U (dq U)<|ba 9 U<|zr U (zh (.l (.l (.l (.r (.rest _)))))) (add j1 _ (hKB.add (c:=64) hvN nn) _ _ nn hvN 0) ?_
   rintro r38 O38 ⟨⟨j2,u2⟩,rfl,rfl,_⟩
   refine z6<|bY<|y3 (zb (zc .t4))<|y3 (zb (zc .t4))<|y3 (zb (zc .t4))<|y3 (zb (zc .t4))<|y3 (zb (zc .t4))<|aO<|aC U U<|aa U<|z6 ?_
   exact ⟨(v+1,j2),de,aH,⟨_,(.refl _),by rw[hstep,hre]⟩,hv2,by dsimp only;omega⟩
  ·have c2:¬bp f (v:Int)=2:=by rw[hkt];exact c2
   refine zd<|ya (γ:=Bool) [0,2,8,9,10] (fun u=>[(39,.bool u)]) (fun u=>[(iw,.cells 75 (lm f t pr js jp (⟨[],[]⟩:KS).p.length a9 a10)),(js,.cells 136 [.int .i64 ((f.vars.length+1:Nat):Int),.own jq Q.l.length,.own jm M.length]),(jq,.grow 3 180 (Q.l.map bf).flatten),(jm,.grow 1 3 (cI M)),(jp,.grow 2 187 ((⟨[],[]⟩:KS).p.map cD).flatten)]) (fun u=>u=decide (bp f (v:Int)=0∧(f.params.length:Int)≤(v:Int)∧(aL f (v:Int)).1<0)) ?_ (fun _ _ h=>h) ?_
   ·refine aO<|ao Zi U Yq U U<|ay X4 U<|ai U U<|aj U<|zo (s:=43) U (fun c1=>?_) (fun c1=>?_)
    ·refine z8 U U c1<|aa U<|z8 U U c1<|aE U<|z8 U U c1<|aw U<|z8 U U c1<|za (zn je U jf (by decide) U U)<|z8 U U c1<|za (zn jg U j8 (by decide) U U)<|z8 U U c1<|za (zt (c:=.fro _ _) j9 U ⟨_,.head⟩ U)<|z8 U U c1<|ar wz U<|z8 U U c1<|za (yy U U)<|aq U c1 U<|aj U<|zo (s:=53) U (fun c2=>?_) (fun c2=>?_)
     ·refine z8 U U c2<|aE U<|z8 U U c2<|aw U<|z8 U U c2<|za (zn je U Yi (by decide) U U)<|z8 U U c2<|za (zt (c:=.fro _ _) X5 U ⟨_,.head⟩ U)<|z8 U U c2<|aa U<|z8 U U c2<|za (bh v Zt Yh U U U hmk)<|z8 U U c2<|ao Zp U j6 U U<|z8 U U c2<|ay j7 U<|z8 U U c2<|ax U U<|aq U c2 U<|ab U<|z6 ?_
      exact ⟨_,(by repeat (first|with_reducible exact zp _ _|refine zz rfl ?_)),aH,aD,by rw[hkt];clear add same;simp_all<;>(intros;omega)⟩
     ·refine z7 U U c2<|z7 U U c2<|z7 U U c2<|z7 U U c2<|z7 U U c2<|z7 U U c2<|z7 U U c2<|z7 U U c2<|z7 U U c2<|au U c2 U<|ab U<|z6 ?_
      exact ⟨_,(by repeat (first|with_reducible exact zp _ _|refine zz rfl ?_)),aH,aD,by rw[hkt];clear add same;simp_all<;>(intros;omega)⟩
    ·refine z7 U U c1<|z7 U U c1<|z7 U U c1<|z7 U U c1<|z7 U U c1<|z7 U U c1<|z7 U U c1<|z7 U U c1<|au U c1 U<|aj U<|z7 U U U<|z7 U U U<|z7 U U U<|z7 U U U<|z7 U U U<|z7 U U U<|z7 U U U<|z7 U U U<|z7 U U U<|au U U U<|ab U<|z6 ?_
     exact ⟨_,(by repeat (first|with_reducible exact zp _ _|refine zz rfl ?_)),aH,aD,by rw[hkt];clear add same;simp_all<;>(intros;omega)⟩
   ·rintro u hu
    refine zy U (fun cu=>?_) (fun cu=>?_)
    ·have hre:dU f Q (v:Int)=hU Q (v:Int) (bQ f):=by unfold dU;rw[if_neg c2,if_pos (w4 (hu▸cu))]
     refine aO<|aE U<|aa U<|aE U<|aw U<|za (zn je U j6 (by decide) U U)<|za (zt (c:=.int _ _) j7 U ⟨_,.head⟩ U)<|zr U (zh (.l (.l (.l (.l (.r (.rest _))))))) (same jq Q hKB _ _ hvN nn) ?_
     rintro r70 O70 ⟨j1,rfl,rfl,_⟩
     refine z6<|y3 (zb (zc .t4))<|y3 (zb (zc .t4))<|y3 (zb (zc .t4))<|y3 (zb (zc .t4))<|y3 (zb (zc .t4))<|aO<|aC U U<|aa U<|z6 ?_
     exact ⟨(v+1,j1),de,aH,⟨_,(.refl _),by rw[hstep,hre];rfl⟩,hv2,by dsimp only;omega⟩
    ·have hre:dU f Q (v:Int)=Q:=by unfold dU;rw[if_neg c2,if_neg (w5 (hu▸cu))]
     refine zg<|aO<|aC U U<|aa U<|z6 ?_
     exact ⟨(v+1,jq),de,aH,⟨_,(.refl _),by rw[hstep,hre]⟩,hv2,by dsimp only;omega⟩
 ·obtain rfl:v=f.vars.length:=by simp at cv;omega
  have htk:(aU f.vars.length).take f.vars.length=aU f.vars.length:=List.take_of_length_le (by rw[bA];exact Nat.le_refl _)
  rw[htk]
  refine y7<|yh ?_
  exact ⟨jq,rfl,⟨_,.refl _,by rw[sQ]⟩,trivial⟩
end Go.Proofs.YtdilpodccjlkgaaGreatDoor
