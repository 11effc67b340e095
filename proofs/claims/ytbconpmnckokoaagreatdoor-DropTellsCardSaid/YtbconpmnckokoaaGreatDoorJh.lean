/- Cells of a slice of one's own that lead to another one: named, or known henceforth. No conditions. -/
import Derived.Test.YtbconpmnckokoaaGreatDoorJg
import Derived.Test.YtbconpmnckokoaaGreatDoorJe
import Derived.Test.YtbconpmnckokoaaGreatDoorJf
set_option linter.unusedVariables false
set_option linter.unusedSimpArgs false
set_option linter.unusedSectionVars false
namespace Go.Proofs.YtbconpmnckokoaaGreatDoor
section
open Go.Proofs.Tryz
open Go.Proofs Go.Lib Go.Shelf Go.RowKit
set_option maxRecDepth 20000
variable {E:World}
theorem fJ {α:Type} (g:α→Nat):∀(l:List α) (k:Nat),((l.take k).map g).sum≤(l.map g).sum
 |[],k=>by simp
 |x::l,0=>by simp
 |x::l,k+1=>by
  have:=fJ g l k
  simp only[List.take_succ_cons,List.map_cons,List.sum_cons];omega
theorem uT (l:List dv) (k:Nat):wP (l.take k)≤wP l:=fJ _ l k
theorem uU (l:List aN) (k:Nat):wX (l.take k)≤wX l:=fJ _ l k
theorem f8 {f:ap} (h:f0 f) {k:Nat} (hk:k<f.blocks.length):wV f.vars+mG (f.blocks.take k)+wB f.blocks[k]≤4000:=by
 have h1:=h.2.2.2.2.2 (fun e=>by rw[e] at hk;exact absurd hk (Nat.not_lt_zero _))
 have h2:mG (f.blocks.take (k+1))≤mG f.blocks:=fJ _ f.blocks (k+1)
 rw[lN hk] at h2
 omega
set_option maxHeartbeats 8000000 in
theorem lZ (f:ap) (hf:lO f):bx prog E 6 [.agg (bP f)] [] (fun x _=>∃b:Bool,x=.bool b∧(b=true↔f0 f)):=by
 obtain ⟨hf1,hf2,hf3,hf4⟩:=hf
 have hl1:=hf1.lt
 have hl3:=hf3.lt
 refine zk func6 Z (by decide) Z<|aj<|zy (cs:=_) Z Z Z<|ae Z<|z7<|za<|za<|yl (γ:=Unit) [1] (fun u=>[(27,.bool (ri f))]) (fun u=>[]) (fun u=>True) ?_ (fun _ _ h=>h) ?_
 ·refine bA<|ax j4 Z Z8 Z Z<|aU Ze Z<|ad jn Z<|z8 (ym Z Z)<|ah Z<|zi (s:=16) Z (fun c1=>?_) (fun c1=>?_)
  ·refine z2 Z Z c1<|z2 Z Z c1<|z2 Z Z c1<|z2 Z Z c1<|ai Z c1 Z<|ah Z<|z2 Z Z Z<|z2 Z Z Z<|z2 Z Z Z<|z2 Z Z Z<|ai Z Z Z<|z7 ?_
   exact ⟨(),bg,⟨jb (by simp_all[ri]<;>grind),trivial⟩,aX,trivial⟩
  ·refine z6 Z Z c1<|ax j4 Z jp Z Z<|z6 Z Z c1<|aU jw Z<|z6 Z Z c1<|ad j8 Z<|z6 Z Z c1<|z8 (ym Z Z)<|ak Z c1 Z<|ah Z<|zi (s:=22) Z (fun c2=>?_) (fun c2=>?_)
   ·refine z2 Z Z c2<|z2 Z Z c2<|z2 Z Z c2<|z2 Z Z c2<|ai Z c2 Z<|z7 ?_
    exact ⟨(),bg,⟨jb (by simp_all[ri]<;>grind),trivial⟩,aX,trivial⟩
   ·refine z6 Z Z c2<|ax j4 Z je Z Z<|z6 Z Z c2<|aU jj Z<|z6 Z Z c2<|ad j6 Z<|z6 Z Z c2<|z8 (ym Z Z)<|ak Z c2 Z<|z7 ?_
    exact ⟨(),bg,⟨jb (by simp_all[ri]<;>grind),trivial⟩,aX,trivial⟩
 ·rintro _ _
  refine zn Z (fun c1=>?_) (fun c1=>?_)
  ·refine aj<|ae Z<|z7<|zd<|zg (x:=.bool _) Z ?_
   exact ⟨_,rfl,fun h=>(by cases h),fun hl=>absurd hl (fun hl=>by have h1:=hl.1;have h2:=hl.2.1;have h3:=hl.2.2.1;unfold ri at c1;simp at c1;omega)⟩
  ·have hsz:f.vars.length≤100∧f.blocks.length≤40∧f.params.length≤20:=by unfold ri at c1;simp at c1;omega
   refine ze<|aj<|aw Z<|z7<|za<|aj<|ax j4 Z Z8 Z Z<|aU Ze Z<|ad jn Z<|ab Z<|z7<|zh<|zt (γ:=Nat) [1,29,30] (fun k=>[(31,.int .i64 k),(3,.int .i64 (wV (f.vars.take k)))]) (fun k=>[]) (fun k=>k≤f.vars.length∧wV (f.vars.take k)≤400*k∧∀v∈f.vars.take k,v.name.size≤400) (fun k=>f.vars.length - k) 0 fT aX (⟨yw _,Nat.le_refl _,by simp⟩) ?_
   rintro k ⟨hk,hw,hv⟩
   refine aj<|aB Z Z<|z7<|za<|zq Z (fun ck=>?_) (fun ck=>?_)
   ·have hk1:k<f.vars.length:=by omega
    have hs:=uE hk1
    refine ze<|za<|zh<|aj<|z8 (yc jn Z5 Z Z Z (yt (by omega)))<|aa isAgg73 Z5 Z Z<|zo (cs:=[.str ⟨#[]⟩,.int .i64 0]) zeroValue73 Z Z<|fun i5=>zm Z5 Z Z Z Z Z Z .head Z<|z7<|za<|aj<|z8 (zf ju Z js (by decide) Z Z)<|z8 (zj (c:=.str _) jz Z ⟨_,.head⟩ Z)<|z8 (Gv.lenT jr Z)<|z8 (ym Z Z)<|z7<|zq Z (fun cn=>?_) (fun cn=>?_)
    ·refine aj<|ae Z<|z7<|zd<|zg (x:=.bool _) Z ?_
     exact ⟨_,rfl,fun h=>(by cases h),fun hl=>absurd hl (fun hl=>by have h1:=hl.2.2.2.1 _ (yx hk1);omega)⟩
    ·refine ze<|bA<|ab Z<|z8 (zf ju Z js (by decide) Z Z)<|z8 (zj (c:=.str _) jz Z ⟨_,.head⟩ Z)<|z8 (Gv.lenT jr Z)<|aI Z Z<|aw Z<|z7<|bA<|aI Z Z<|ab Z<|z7 ?_
     exact ⟨k+1,r3,⟨rfl,congrArg (AV.int .i64) (by rw[hs];omega),trivial⟩,⟨_,(.drop (.refl _)),rfl⟩,⟨hk1,by omega,cr hk1 hv (by omega)⟩,by omega⟩
   ·obtain rfl:k=f.vars.length:=by omega
    rw[yy] at hw hv
    rw[yy]
    refine zu<|za<|aj<|ax j4 Z jp Z Z<|aU jw Z<|ad j8 Z<|ab Z<|z7<|zh<|zt (γ:=Nat) [46,47] (fun k=>[(48,.int .i64 k),(3,.int .i64 (wV f.vars+mG (f.blocks.take k):Nat))]) (fun k=>[]) (fun k=>k≤f.blocks.length∧(0<k→wV f.vars+mG (f.blocks.take k)≤4000)∧mG (f.blocks.take k)≤4000∧∀b∈f.blocks.take k,ny b) (fun k=>f.blocks.length - k) 0 fT aX (⟨yw _,by omega,by simp[mG],by simp⟩) ?_
    rintro k ⟨hk,hw2,hw3,hb⟩
    refine aj<|aB Z Z<|z7<|za<|zq Z (fun ck=>?_) (fun ck=>?_)
    ·have hk1:k<f.blocks.length:=by omega
     obtain ⟨hb1,hb2,hb3,hb4⟩:=hf4 _ (yx hk1)
     have hs:=lN hk1
     refine ze<|za<|zh<|aj<|z8 (yc j8 jg Z Z Z (yt (by omega)))<|aa Zc jg Z Z<|zo (cs:=[.str ⟨#[]⟩,.raw (.slice none 0 0),.raw (.slice none 0 0),.int .i64 0,.int .i64 0,.int .i64 0,.int .i64 0]) jt Z Z<|fun i7=>zm jg Z Z Z Z Z Z .head Z<|z7<|za<|za<|yl (γ:=Unit) [3,7,46,47,48] (fun u=>[(67,.bool (rj f.blocks[k]))]) (fun u=>[(i7,.cells 62 (aO f.blocks[k]))]) (fun u=>True) ?_ (fun _ _ h=>h) ?_
     ·refine bA<|z8 (zf wy Z js (by decide) Z Z)<|z8 (zj (c:=.str _) jz Z ⟨_,.head⟩ Z)<|z8 (Gv.lenT jr Z)<|z8 (ym Z Z)<|ah Z<|zi (s:=56) Z (fun c3=>?_) (fun c3=>?_)
      ·refine z2 Z Z c3<|z2 Z Z c3<|z2 Z Z c3<|z2 Z Z c3<|ai Z c3 Z<|ah Z<|z2 Z Z Z<|z2 Z Z Z<|z2 Z Z Z<|z2 Z Z Z<|ai Z Z Z<|z7 ?_
       exact ⟨(),⟨rfl,rfl,rfl,rfl,rfl,trivial⟩,⟨jb (by simp_all[rj]<;>grind),trivial⟩,aX,trivial⟩
      ·refine z6 Z Z c3<|z8 (zf wy Z Z2 (by decide) Z Z)<|z6 Z Z c3<|z8 (zj (c:=.fro _ _) Zd Z ⟨_,.head⟩ Z)<|z6 Z Z c3<|ad ji Z<|z6 Z Z c3<|z8 (ym Z Z)<|ak Z c3 Z<|ah Z<|zi (s:=62) Z (fun c4=>?_) (fun c4=>?_)
       ·refine z2 Z Z c4<|z2 Z Z c4<|z2 Z Z c4<|z2 Z Z c4<|ai Z c4 Z<|z7 ?_
        exact ⟨(),⟨rfl,rfl,rfl,rfl,rfl,trivial⟩,⟨jb (by simp_all[rj]<;>grind),trivial⟩,aX,trivial⟩
       ·refine z6 Z Z c4<|z8 (zf wy Z jl (by decide) Z Z)<|z6 Z Z c4<|z8 (zj (c:=.fro _ _) Z0 Z ⟨_,.head⟩ Z)<|z6 Z Z c4<|ad ja Z<|z6 Z Z c4<|z8 (ym Z Z)<|ak Z c4 Z<|z7 ?_
        exact ⟨(),⟨rfl,rfl,rfl,rfl,rfl,trivial⟩,⟨jb (by simp_all[rj]<;>grind),trivial⟩,aX,trivial⟩
     ·rintro _ _
      refine zn Z (fun c2=>?_) (fun c2=>?_)
      ·refine aj<|ae Z<|z7<|zd<|zg (x:=.bool _) Z ?_
       exact ⟨_,rfl,fun h=>(by cases h),fun hl=>absurd hl (fun hl=>by obtain ⟨h1,h2,h3,_⟩:=hl.2.2.2.2.1 _ (yx hk1);unfold rj at c2;simp at c2;omega)⟩
      ·have hsb:f.blocks[k].name.size≤400∧f.blocks[k].phis.length≤400∧f.blocks[k].insts.length≤400:=by unfold rj at c2;simp at c2;omega
       refine ze<|aj<|ab Z<|z8 (zf wy Z js (by decide) Z Z)<|z8 (zj (c:=.str _) jz Z ⟨_,.head⟩ Z)<|z8 (Gv.lenT jr Z)<|z8 (zf wy Z Z2 (by decide) Z Z)<|z8 (zj (c:=.fro _ _) Zd Z ⟨_,.head⟩ Z)<|ad ji Z<|z8 (zf wy Z jl (by decide) Z Z)<|z8 (zj (c:=.fro _ _) Z0 Z ⟨_,.head⟩ Z)<|ad ja Z<|aI Z Z<|z8 (Gv.mul Z Z (by unfold lC;omega))<|aI Z Z<|aI Z Z<|aw Z<|z7<|za<|aj<|z8 (zf wy Z Z2 (by decide) Z Z)<|z8 (zj (c:=.fro _ _) Zd Z ⟨_,.head⟩ Z)<|ad ji Z<|ab Z<|z7<|zh<|zt (γ:=Nat) [7,46,47,48,83,84] (fun m=>[(85,.int .i64 m),(3,.int .i64 (wV f.vars+mG (f.blocks.take k)+(f.blocks[k].name.size+10*(f.blocks[k].phis.length+f.blocks[k].insts.length))+wP (f.blocks[k].phis.take m):Nat))]) (fun m=>[(i7,.cells 62 (aO f.blocks[k]))]) (fun m=>m≤f.blocks[k].phis.length∧wP (f.blocks[k].phis.take m)≤800*m∧∀p∈f.blocks[k].phis.take m,p.args.length≤400∧p.from_.length≤400) (fun m=>f.blocks[k].phis.length - m) 0 ⟨Z,(congrArg (AV.int .i64) (by simp[wP]<;>omega)),trivial⟩ aX (⟨yw _,by simp[wP],by simp⟩) ?_
       rintro m ⟨hm,hwp,hp⟩
       refine aj<|aB Z Z<|z7<|za<|zq Z (fun cm=>?_) (fun cm=>?_)
       ·have hm1:m<f.blocks[k].phis.length:=by omega
        obtain ⟨hq1,hq2⟩:=hb3 _ (yx hm1)
        have hl6:=hq1.lt
        have hl7:=hq2.lt
        have hs2:=uF hm1
        refine ze<|za<|zh<|aj<|z8 (yc ji jq Z Z Z (yt (by omega)))<|aa isAgg77 jq Z Z<|zo (cs:=[.int .i64 0,.raw (.slice none 0 0),.raw (.slice none 0 0)]) Z9 Z Z<|fun i9=>zm jq Z Z Z Z Z Z .head Z<|z7<|za<|za<|yl (γ:=Unit) [3,7,9,46,47,48,83,84,85] (fun u=>[(102,.bool (decide ((4000:Int)<(wV f.vars+mG (f.blocks.take k)+(f.blocks[k].name.size+10*(f.blocks[k].phis.length+f.blocks[k].insts.length))+wP (f.blocks[k].phis.take m):Nat))||(decide ((400:Int)<f.blocks[k].phis[m].args.length)||decide ((400:Int)<f.blocks[k].phis[m].from_.length))))]) (fun u=>[(i9,.cells 77 (bm f.blocks[k].phis[m])),(i7,.cells 62 (aO f.blocks[k]))]) (fun u=>True) ?_ (fun _ _ h=>h) ?_
        ·refine bA<|ab Z<|z8 (ym Z Z)<|ah Z<|zi (s:=91) Z (fun c5=>?_) (fun c5=>?_)
         ·refine z2 Z Z c5<|z2 Z Z c5<|z2 Z Z c5<|z2 Z Z c5<|ai Z c5 Z<|ah Z<|z2 Z Z Z<|z2 Z Z Z<|z2 Z Z Z<|z2 Z Z Z<|ai Z Z Z<|z7 ?_
          exact ⟨(),ul,⟨jb (by simp_all<;>grind),trivial⟩,aX,trivial⟩
         ·refine z6 Z Z c5<|z8 (zf jd Z je (by decide) Z Z)<|z6 Z Z c5<|z8 (zj (c:=.fro _ _) jj Z ⟨_,.head⟩ Z)<|z6 Z Z c5<|ad j6 Z<|z6 Z Z c5<|z8 (ym Z Z)<|ak Z c5 Z<|ah Z<|zi (s:=97) Z (fun c6=>?_) (fun c6=>?_)
          ·refine z2 Z Z c6<|z2 Z Z c6<|z2 Z Z c6<|z2 Z Z c6<|ai Z c6 Z<|z7 ?_
           exact ⟨(),ul,⟨jb (by simp_all<;>grind),trivial⟩,aX,trivial⟩
          ·refine z6 Z Z c6<|z8 (zf jd Z je (by decide) Z Z)<|z6 Z Z c6<|z8 (zj (c:=.fro _ _) jj Z ⟨_,.head⟩ Z)<|z6 Z Z c6<|ad j6 Z<|z6 Z Z c6<|z8 (ym Z Z)<|ak Z c6 Z<|z7 ?_
           exact ⟨(),ul,⟨jb (by simp_all<;>grind),trivial⟩,aX,trivial⟩
        ·rintro _ _
         refine zn Z (fun cp=>?_) (fun cp=>?_)
         ·refine aj<|ae Z<|z7<|zd<|zg (x:=.bool _) Z ?_
          exact ⟨_,rfl,fun h=>(by cases h),fun hl=>absurd hl (fun hl=>by obtain ⟨_,_,_,h4,_⟩:=hl.2.2.2.2.1 _ (yx hk1);have h5:=h4 _ (yx hm1);have h9:=f8 hl hk1;have hwb:wB f.blocks[k]=f.blocks[k].name.size+10*(f.blocks[k].phis.length+f.blocks[k].insts.length)+wP f.blocks[k].phis+wX f.blocks[k].insts:=rfl;have h10:=uT f.blocks[k].phis m;simp only[Bool.or_eq_true,decide_eq_true_eq] at cp;omega)⟩
         ·rcases Bool.or_eq_false_iff.1 cp with ⟨a1,a2⟩
          rcases Bool.or_eq_false_iff.1 a2 with ⟨a3,a4⟩
          have a3:=of_decide_eq_false a3
          have a4:=of_decide_eq_false a4
          refine ze<|bA<|ab Z<|z8 (zf jd Z je (by decide) Z Z)<|z8 (zj (c:=.fro _ _) jj Z ⟨_,.head⟩ Z)<|ad j6 Z<|z8 (zf jd Z je (by decide) Z Z)<|z8 (zj (c:=.fro _ _) jj Z ⟨_,.head⟩ Z)<|ad j6 Z<|aI Z Z<|aI Z Z<|aw Z<|z7<|bA<|aI Z Z<|ab Z<|z7 ?_
          exact ⟨m+1,uk,⟨rfl,congrArg (AV.int .i64) (by rw[hs2];omega),trivial⟩,⟨_,(.drop (.refl _)),rfl⟩,⟨hm1,by omega,cr hm1 hp ⟨by omega,by omega⟩⟩,by omega⟩
       ·obtain rfl:m=f.blocks[k].phis.length:=by omega
        rw[yy] at hwp hp
        rw[yy]
        refine zu<|za<|aj<|z8 (zf wy Z jl (by decide) Z Z)<|z8 (zj (c:=.fro _ _) Z0 Z ⟨_,.head⟩ Z)<|ad ja Z<|ab Z<|z7<|zh<|zt (γ:=Nat) [46,47,48,114,115] (fun m=>[(116,.int .i64 m),(3,.int .i64 (wV f.vars+mG (f.blocks.take k)+(f.blocks[k].name.size+10*(f.blocks[k].phis.length+f.blocks[k].insts.length))+wP f.blocks[k].phis+wX (f.blocks[k].insts.take m):Nat))]) (fun m=>[(i7,.cells 62 (aO f.blocks[k]))]) (fun m=>m≤f.blocks[k].insts.length∧wX (f.blocks[k].insts.take m)≤400*m∧∀p∈f.blocks[k].insts.take m,p.args.length≤400) (fun m=>f.blocks[k].insts.length - m) 0 ⟨Z,(congrArg (AV.int .i64) (by simp[wX]<;>omega)),trivial⟩ aX (⟨yw _,by simp[wX],by simp⟩) ?_
        rintro m ⟨hm,hwx,hx⟩
        refine aj<|aB Z Z<|z7<|za<|zq Z (fun cm=>?_) (fun cm=>?_)
        ·have hm1:m<f.blocks[k].insts.length:=by omega
         have hq1:=hb4 _ (yx hm1)
         have hl6:=hq1.lt
         have hs2:=uG hm1
         refine ze<|za<|zh<|aj<|z8 (yc ja jh Z Z Z (yt (by omega)))<|aa Z7 jh Z Z<|zo (cs:=[.int .i64 0,.int .i64 0,.raw (.slice none 0 0),.int .i64 0]) Z1 Z Z<|fun i11=>zm jh Z Z Z Z Z Z .head Z<|z7<|za<|za<|yl (γ:=Unit) [3,11,46,47,48,114,115,116] (fun u=>[(127,.bool (decide ((4000:Int)<(wV f.vars+mG (f.blocks.take k)+(f.blocks[k].name.size+10*(f.blocks[k].phis.length+f.blocks[k].insts.length))+wP f.blocks[k].phis+wX (f.blocks[k].insts.take m):Nat))||decide ((400:Int)<f.blocks[k].insts[m].args.length)))]) (fun u=>[(i11,.cells 67 (aW f.blocks[k].insts[m])),(i7,.cells 62 (aO f.blocks[k]))]) (fun u=>True) ?_ (fun _ _ h=>h) ?_
         ·refine bA<|ab Z<|z8 (ym Z Z)<|ah Z<|zi (s:=122) Z (fun c7=>?_) (fun c7=>?_)
          ·refine z2 Z Z c7<|z2 Z Z c7<|z2 Z Z c7<|z2 Z Z c7<|ai Z c7 Z<|z7 ?_
           exact ⟨(),sd,⟨jb (by simp_all<;>grind),trivial⟩,aX,trivial⟩
          ·refine z6 Z Z c7<|z8 (zf wz Z je (by decide) Z Z)<|z6 Z Z c7<|z8 (zj (c:=.fro _ _) jj Z ⟨_,.head⟩ Z)<|z6 Z Z c7<|ad j6 Z<|z6 Z Z c7<|z8 (ym Z Z)<|ak Z c7 Z<|z7 ?_
           exact ⟨(),sd,⟨jb (by simp_all<;>grind),trivial⟩,aX,trivial⟩
         ·rintro _ _
          refine zn Z (fun cp=>?_) (fun cp=>?_)
          ·refine aj<|ae Z<|z7<|zd<|zg (x:=.bool _) Z ?_
           exact ⟨_,rfl,fun h=>(by cases h),fun hl=>absurd hl (fun hl=>by obtain ⟨_,_,_,_,h4⟩:=hl.2.2.2.2.1 _ (yx hk1);have h5:=h4 _ (yx hm1);have h9:=f8 hl hk1;have hwb:wB f.blocks[k]=f.blocks[k].name.size+10*(f.blocks[k].phis.length+f.blocks[k].insts.length)+wP f.blocks[k].phis+wX f.blocks[k].insts:=rfl;have h10:=uU f.blocks[k].insts m;simp only[Bool.or_eq_true,decide_eq_true_eq] at cp;omega)⟩
          ·rcases Bool.or_eq_false_iff.1 cp with ⟨a1,a2⟩
           have a2:=of_decide_eq_false a2
           refine ze<|bA<|ab Z<|z8 (zf wz Z je (by decide) Z Z)<|z8 (zj (c:=.fro _ _) jj Z ⟨_,.head⟩ Z)<|ad j6 Z<|aI Z Z<|aw Z<|z7<|bA<|aI Z Z<|ab Z<|z7 ?_
           exact ⟨m+1,⟨rfl,rfl,rfl,rfl,rfl,trivial⟩,⟨rfl,congrArg (AV.int .i64) (by rw[hs2];omega),trivial⟩,⟨_,(.drop (.refl _)),rfl⟩,⟨hm1,by omega,cr hm1 hx (by omega)⟩,by omega⟩
        ·obtain rfl:m=f.blocks[k].insts.length:=by omega
         rw[yy] at hwx hx
         rw[yy]
         refine zu<|aj<|ab Z<|z8 (ym Z Z)<|z7<|zq Z (fun cz=>?_) (fun cz=>?_)
         ·refine aj<|ae Z<|z7<|zd<|zg (x:=.bool _) Z ?_
          exact ⟨_,rfl,fun h=>(by cases h),fun hl=>absurd hl (fun hl=>by have h9:=f8 hl hk1;have hwb:wB f.blocks[k]=f.blocks[k].name.size+10*(f.blocks[k].phis.length+f.blocks[k].insts.length)+wP f.blocks[k].phis+wX f.blocks[k].insts:=rfl;omega)⟩
         ·have hwb:wB f.blocks[k]=f.blocks[k].name.size+10*(f.blocks[k].phis.length+f.blocks[k].insts.length)+wP f.blocks[k].phis+wX f.blocks[k].insts:=rfl
          refine ze<|bA<|aI Z Z<|ab Z<|z7 ?_
          exact ⟨k+1,fT,⟨rfl,congrArg (AV.int .i64) (by rw[hs];omega),trivial⟩,⟨_,(.drop (.refl _)),rfl⟩,⟨hk1,by omega,by omega,cr hk1 hb ⟨hsb.1,hsb.2.1,hsb.2.2,hp,hx⟩⟩,by omega⟩
    ·obtain rfl:k=f.blocks.length:=by omega
     rw[yy] at hw2 hw3 hb
     refine zu<|aj<|ae Z<|z7<|zd<|zg (x:=.bool _) Z ?_
     exact ⟨_,rfl,fun _=>⟨hsz.1,hsz.2.1,hsz.2.2,hv,hb,fun hne=>hw2 (List.length_pos_iff.2 hne)⟩,fun _=>rfl⟩
theorem gI (f:ap) (hf:iw f) (hn:fG f) (hL:ac E):aQ prog E 27 [.agg (bP f)] (.bool (decide (cI f))):=by
 refine zk func27 Z (by decide) Z<|aj<|zy (cs:=_) Z Z Z<|ae Z<|z7<|aj<|aa j9 j5 Z Z<|zc (iA _ (by assumption) (by assumption) hL) Z<|ae Z<|z7<|zd<|zg (x:=.bool _) Z ?_
 rfl
noncomputable def sN (f:ap):Bool:=@decide (f0 f) (Classical.propDecidable _)
theorem iR (f:ap):sN f=true↔f0 f:=by unfold sN;exact @decide_eq_true_iff _ (Classical.propDecidable _)
theorem f9 (f:ap) (hf:lO f):aQ prog E 6 [.agg (bP f)] (.bool (sN f)):=
 (lZ f hf).mono fun x O' ⟨b,e,h⟩=>by
  rw[e]
  congr 1
  rw[Bool.eq_iff_iff,h,iR]
theorem iS (f:ap) (hf:small f) (hL:ac E):aQ prog E 15 [.agg (bP f)] (.bool (b8 f)):=by
 have hs:=gI (E:=E) f hf.ok hf.names hL
 refine zk func15 Z (by decide) Z<|aj<|zy (cs:=_) Z Z Z<|ae Z<|z7<|aj<|aa j9 j5 Z Z<|zc (hs) Z ?_
 by_cases g4:cI f
 ·refine ah Z<|z6 Z Z (decide_eq_true g4)<|aa j9 j5 Z Z<|z6 Z Z (decide_eq_true g4)<|zc (kc f hf g4) Z<|z8 (uw Z (decide_eq_true g4) Z)<|ae Z<|z7<|zd<|zg (x:=.bool _) Z ?_
  exact jb (by unfold b8;rw[el,decide_eq_true g4];rfl)
 ·refine ah Z<|z2 Z Z (q0 g4)<|z2 Z Z (q0 g4)<|z8 (ux Z (q0 g4) Z)<|ae Z<|z7<|zd<|zg (x:=.bool _) Z ?_
  exact jb (by unfold b8;rw[el,q0 g4];rfl)
theorem dX (f:ap) (hw:lO f) (hL:ac E):aQ prog E 9 [.agg (bP f)] (.bool (sN f&&b8 f)):=by
 refine zk func9 Z (by decide) Z<|aj<|zy (cs:=_) Z Z Z<|ae Z<|z7<|aj<|aa j9 j5 Z Z<|zc (f9 f hw) Z<|ah Z<|zi (s:=5) Z (fun g=>?_) (fun g=>?_)
 ·refine z6 Z Z g<|aa j9 j5 Z Z<|z6 Z Z g<|zc (iS f ((iR f).1 g).small hL) Z<|ai Z g Z<|ae Z<|z7<|zd<|zg (x:=.bool _) Z ?_
  exact jb (by rw[g];rfl)
 ·refine z2 Z Z g<|z2 Z Z g<|ak Z g Z<|ae Z<|z7<|zd<|zg (x:=.bool _) Z ?_
  exact jb (by rw[g];rfl)
end
section
open Go.Proofs.Tryz
end
section
open Go.Proofs.Tryz
open Go.Proofs Go.Lib Go.Shelf Go.RowKit
variable {E:World}
set_option maxRecDepth 20000
theorem fw (op:Int):aQ prog E 25 [.int .i64 op] (.bool (decide (18≤op)&&decide (op≤24))):=by
 refine zk func25 Z (by decide) Z<|aj<|ae Z<|z7<|aj<|ab Z<|z8 (Gv.geq Z Z)<|ah Z<|zi (s:=5) Z (fun c1=>?_) (fun c1=>?_)
 ·refine z6 Z Z c1<|ab Z<|z6 Z Z c1<|z8 (Gv.leq Z Z)<|ai Z c1 Z<|ae Z<|z7<|zd<|zg (x:=.bool _) Z ?_
  exact jb (by simp_all<;>omega)
 ·refine z2 Z Z c1<|z2 Z Z c1<|ak Z c1 Z<|ae Z<|z7<|zd<|zg (x:=.bool _) Z ?_
  exact jb (by simp_all<;>omega)
end
section
open Go.Proofs.Tryz
open Go.Proofs Go.Lib Go.Shelf Go.RowKit
variable {E:World}
set_option maxRecDepth 20000
end
section
open Go.Proofs.Tryz
open Go.Proofs Go.Lib Go.Shelf Go.RowKit
variable {E:World}
set_option maxRecDepth 20000
theorem l1 (op:Int) (h:0≤op∧op≤26):aQ prog E 18 [.int .i64 op] (.int .i64 (if 18≤op∧op≤24 then op - 17 else 0)):=by
 refine zk func18 Z (by decide) Z<|aj<|aw Z<|z7<|za<|aj<|ab Z<|aB Z Z<|ah Z<|zi (s:=5) Z (fun c1=>?_) (fun c1=>?_)
 ·have h1:op<18:=by simpa using c1
  refine z2 Z Z c1<|z2 Z Z c1<|ai Z c1 Z<|z7<|y9 Z Z<|aj<|aw Z<|z7<|zd<|zg (x:=.int _ _) Z ?_
  rw[if_neg (by omega)]
 ·have h1:¬op<18:=by simpa using c1
  refine z6 Z Z c1<|ab Z<|z6 Z Z c1<|z8 (ym Z Z)<|ak Z c1 Z<|z7<|zn Z (fun c2=>?_) (fun c2=>?_)
  ·have h2:24<op:=by simpa using c2
   refine aj<|aw Z<|z7<|zd<|zg (x:=.int _ _) Z ?_
   rw[if_neg (by omega)]
  ·have h2:¬24<op:=by simpa using c2
   refine ze<|aj<|ab Z<|z8 (Gv.sub Z Z (by unfold lC;omega))<|aw Z<|z7<|zd<|zg (x:=.int _ _) Z ?_
   rw[if_pos (by omega)]
end
section
open Go.Proofs.Tryz
variable {α:Type}
def mg (k:Int):List (Int × List α)→List α
 |[]=>[]
 |(k',r)::es=>if k=k' then r else mg k es
def ms (k:Int) (r:List α):List (Int × List α)→List (Int × List α)
 |[]=>[(k,r)]
 |(k',r')::es=>if k=k' then (k,r)::es else (k',r')::ms k r es
def kv (k:Int):Value:=.int .i64 k
section
variable {E:World} {P:Program} {ops:Array Oper} {K:aE→OL→Prop} {env:aE} {O O' O'':OL} {rest:List Oper} {n:Nat}
variable {d ty:Nat} {pos:String} {af:Array Edge} {x y z:Operand} {t u e T kt:TypeId} {b:Nat}
end
end
section
open Go.Proofs.Tryz
open Go.Proofs
section
variable {E:World} {P:Program} {ops:Array Oper} {K:aE→OL→Prop} {env:aE} {O O' O'':OL} {rest:List Oper} {n:Nat}
variable {d ty:Nat} {pos:String} {af:Array Edge} {x y z:Operand} {t u e T:TypeId}
end
end
section
open Go.Proofs.Tryz
open Go.Proofs
end
section
open Go.Proofs.Tryz
open Go.Proofs
theorem aq.storeGN {E:World} {P:Program} {ops:Array Oper} {K:aE→OL→Prop} {env:aE} {O O':OL} {rest:List Oper} {ty:Nat} {pos:String} {af:Array Edge} {x y:Operand} {t:TypeId} {i off k:Nat} {T:TypeId} {v:AV} {cs new:List AV} (hs:∀w,(sizeOf t).run P w=.ok 1 w) (hx:aT env x=.po i off) (hy:aT env y=v) (hv:v.sto=true) (hl:v.cs=[v]) (hl1:v.cell=true)
  (hO:ed O i (.grow k T cs) (.grow k T new) O') (hb:off<cs.length) (hnew:cs.set off v=new) (kk:aq P E ops K rest env O'):aq P E ops K (Oper.mk none (.store t x y) ty pos af none::rest) env O:=by
 subst hnew;exact aq.storeG1 hs hx hy hv hl hl1 hO hb kk
end
section
open Go.Proofs.Tryz
open Go.Proofs
section
variable {I J:G} {L:List (Nat × Obj)} {O O':OL} {i k m:Nat} {T:TypeId}
end
end
section
open Go.Proofs.Tryz
def ag (k:Int):List (Int × AV)→Option AV
 |[]=>none
 |(k',x)::es=>if k=k' then some x else ag k es
def am (k:Int) (x:AV):List (Int × AV)→List (Int × AV)
 |[]=>[(k,x)]
 |(k',x')::es=>if k=k' then (k,x)::es else (k',x')::am k x es
section
variable {E:World} {P:Program} {ops:Array Oper} {K:aE→OL→Prop} {env:aE} {O O' O'':OL} {rest:List Oper} {n:Nat}
variable {d ty:Nat} {pos:String} {af:Array Edge} {x y z:Operand} {t u e T kt:TypeId} {b:Nat}
end
end
section
open Go.Proofs.Tryz
open Go.Proofs
end
section
open Go.Proofs.Tryz
open Go.Proofs
def wG (x y:AV):Prop:=∀I v,bu I x v→bu I y v
def rA (xs ys:List AV):Prop:=∀I vs,RepL I xs vs→RepL I ys vs
theorem wG.nil (k:Nat):wG (.raw (.slice none 0 0)) (.fro k []):=fun _ _ h=>⟨none,0,0,h,rfl,Nat.le_refl _,fun _=>rfl,trivial⟩
theorem rA.nil:rA [] []:=fun _ _ h=>h
theorem rA.cons {x y:AV} {xs ys:List AV} (h:wG x y) (hs:rA xs ys):rA (x::xs) (y::ys):=fun I _ ⟨v,us,e,h1,h2⟩=>⟨v,us,e,h I v h1,hs I us h2⟩
theorem wG.agg {xs ys:List AV} (h:rA xs ys):wG (.agg xs) (.agg ys):=fun I _ ⟨vs,e,h1⟩=>⟨vs,e,h I vs h1⟩
end
section
open Go.Proofs.Tryz
open Go.Proofs Go.Lib Go.Shelf Go.RowKit
theorem sO:dg prog 33 35 1 2 [.int .i64 0,.int .i64 0]:=⟨_,jo,jk,zeroValue35,by decide,by decide,by kernel_rfl⟩
variable {E:World}
set_option maxRecDepth 20000
def d7 (z:Int × Int):List AV:=[.int .i64 z.1,.int .i64 z.2]
theorem kX:∀l:List aN,bI l≤l.length
 |[]=>Nat.le_refl _
 |x::l=>by
  have:=kX l
  unfold bI nI
  rw[List.length_cons]
  split<;>omega
theorem uV {l:List aC} (h:∀b∈l,b.insts.length≤1000):(l.map fun b=>bI b.insts).sum≤l.length*1000:=by
 induction l with
 |nil=>exact Nat.le_refl _
 |cons b l ih=>
  have h1:=h b (.head _)
  have h2:=kX b.insts
  have h3:=ih fun c hc=>h c (.tail _ hc)
  rw[List.map_cons,List.sum_cons,List.length_cons,Nat.add_mul]
  omega
theorem eV {f:ap} (hf:small f) (k:Nat):(pA 0 (f.blocks.take k)).length≤1000000:=by
 rw[sH]
 have h1:=uV (l:=f.blocks.take k) fun b hb=>(hf.2.2.2.2 b (List.mem_of_mem_take hb)).2.2.1
 have h2:(f.blocks.take k).length≤f.blocks.length:=by rw[List.length_take];omega
 have h3:=hf.2.2.1
 have:(f.blocks.take k).length*1000≤1000*1000:=Nat.mul_le_mul_right _ (by omega)
 omega
theorem l2 {f:ap} (hf:small f) {b:aC} (hb:b∈f.blocks) (i m:Nat):(pB i 0 (b.insts.take m)).length≤1000:=by
 rw[fv]
 have h1:=kX (b.insts.take m)
 have h2:=(hf.2.2.2.2 b hb).2.2.1
 have h3:(b.insts.take m).length≤b.insts.length:=by rw[List.length_take];omega
 omega
def kB (f:ap) (k m:Nat) (b:aC):List (Int × Int):=pA 0 (f.blocks.take k)++pB k 0 (b.insts.take m)
theorem fK {f:ap} {k:Nat} {b:aC}:kB f k 0 b=pA 0 (f.blocks.take k):=by unfold kB;rw[List.take_zero];exact List.append_nil _
theorem gS {f:ap} {k m:Nat} {b:aC} {x:aN} (hx:b.insts[m]?=some x) (h:f7 x=true):kB f k (m+1) b=kB f k m b++[((k:Int),(m:Int))]:=by unfold kB;rw[nL hx,if_pos h,yv]
theorem kY {f:ap} {k m:Nat} {b:aC} {x:aN} (hx:b.insts[m]?=some x) (h:f7 x=false):kB f k (m+1) b=kB f k m b:=by unfold kB;rw[nL hx,if_neg (by rw[h];decide),List.append_nil]
theorem gT {f:ap} {k:Nat} {b:aC} (h:f.blocks[k]?=some b):kB f k b.insts.length b=pA 0 (f.blocks.take (k+1)):=by unfold kB;rw[yy,uS h]
theorem nM (l:List (Int × Int)):((l.map d7).flatten).length=l.length*2:=cT (k:=2) (fun _=>rfl) l
theorem nN (l:List (Int × Int)) (z:Int × Int):(((l++[z]).map d7).flatten)=((l.map d7).flatten)++d7 z:=by rw[List.map_append,List.flatten_append];simp
set_option maxHeartbeats 4000000 in
theorem dx (f:ap) (hf:small f) (hL:ac E) (ht:b8 f=true):aQ prog E 8 [.agg (bP f)] (.fro 2 ((pA 0 f.blocks).map d7)):=by
 have hty:=dI (E:=E) f hf hL
 rw[if_pos ht] at hty
 have hnb:=hf.2.2.1
 refine zk func8 Z (by decide) Z<|aj<|zy (cs:=_) Z Z Z<|z8 (q6 Z)<|z7<|za<|aj<|aa j9 j5 Z Z<|zc (hty) Z<|aD Z Z<|z7<|y7 Z Z<|ze<|aj<|z8 (q6 Z)<|z7<|eM (t:=3) (k:=2) (T:=35) Z<|fun i3=>za<|aj<|ax j4 Z jp Z Z<|aU jw Z<|ad j8 Z<|ab Z<|z7<|zh<|zt (γ:=Nat × Nat) [12,13] (fun g=>[(14,.int .i64 g.1),(3,.own g.2 (pA 0 (f.blocks.take g.1)).length)]) (fun g=>[(g.2,.grow 2 35 ((pA 0 (f.blocks.take g.1)).map d7).flatten)]) (fun g=>g.1≤f.blocks.length) (fun g=>f.blocks.length - g.1) (0,i3) fT aX (yw _) ?_
 rintro ⟨k,ia⟩ hk
 try dsimp only at *
 refine aj<|aB Z Z<|z7<|za<|zq Z (fun ck=>?_) (fun ck=>?_)
 ·have hk2:k<f.blocks.length:=by simp at ck;omega
  obtain ⟨b,hb⟩:∃b,f.blocks[k]?=some b:=⟨_,yt hk2⟩
  have hbm:=List.mem_of_getElem? hb
  have hs1:=eV hf k
  have hbl:=(hf.2.2.2.2 b hbm).2.2.1
  refine ze<|za<|zh<|aj<|ab Z<|z8 (eO k j8 jg Z Z Z hb)<|aa Zc jg Z Z<|zo (cs:=[.str ⟨#[]⟩,.raw (.slice none 0 0),.raw (.slice none 0 0),.int .i64 0,.int .i64 0,.int .i64 0,.int .i64 0]) jt Z Z<|fun i5=>aw Z<|zm jg Z Z Z Z Z Z .head Z<|z7<|zz (ye (t:=5) Z .head)<|aj<|ax wy Z jl Z Z<|aU Z0 Z<|ad ja Z<|ab Z<|z7<|zh<|zt (γ:=Nat × Nat) [4,12,13,14,20,21] (fun g=>[(22,.int .i64 g.1),(3,.own g.2 (kB f k g.1 b).length)]) (fun g=>[(g.2,.grow 2 35 ((kB f k g.1 b).map d7).flatten)]) (fun g=>g.1≤b.insts.length) (fun g=>b.insts.length - g.1) (0,ia) ⟨Z,by rw[fK]<;>rfl,trivial⟩ ⟨_,(.refl _),by rw[fK]<;>rfl⟩ (yw _) ?_
  rintro ⟨m,ia⟩ hm
  try dsimp only at *
  have hs2:=l2 hf hbm k m
  have hfl:=nM (kB f k m b)
  have hpl:(kB f k m b).length≤2000000:=by unfold kB;rw[yz];omega
  refine aj<|aB Z Z<|z7<|za<|zq Z (fun cm=>?_) (fun cm=>?_)
  ·have hm2:m<b.insts.length:=by simp at cm;omega
   obtain ⟨x,hx⟩:∃x,b.insts[m]?=some x:=⟨_,yt hm2⟩
   refine ze<|za<|zh<|aj<|ab Z<|z8 (eO m ja jh Z Z Z hx)<|aa Z7 jh Z Z<|zo (cs:=[.int .i64 0,.int .i64 0,.raw (.slice none 0 0),.int .i64 0]) Z1 Z Z<|fun i7=>aw Z<|zm jh Z Z Z Z Z Z .head Z<|z7<|zz (ye (t:=7) Z .head)<|aj<|ax wz Z jx Z Z<|aP Z3 Z<|zc (fw x.op) Z<|z7<|zn Z (fun cc=>?_) (fun cc=>?_)
   ·have cc:f7 x=true:=cc
    refine bA<|z8 (zQ Z)<|ab Z<|ab Z<|z8 (Gv.buildA (cps:=[(0,[_]),(1,[_])]) (rs:=[_,_]) sg Z Z Z)<|yb (rows:=[[_,_]]) sO Z Z Z Z Z<|yi (k:=2) jo type35 Z Z Z Z Z (fun _=>.head) hfl (by decide) Z (by show (_+_)*16≤_;simp<;>omega) (by simp<;>omega)<|fun i35=>z8 (xE Z)<|z7<|bA<|aI Z Z<|ab Z<|z7 ?_
    exact ⟨(m+1,i35),uk,⟨rfl,by rw[gS hx cc,yz]<;>rfl,trivial⟩,⟨_,(.refl _),by rw[gS hx cc,nN]<;>rfl⟩,hm2,by dsimp only;omega⟩
   ·have cc:f7 x=false:=cc
    refine ze<|bA<|aI Z Z<|ab Z<|z7 ?_
    exact ⟨(m+1,ia),uk,⟨rfl,by rw[kY hx cc]<;>rfl,trivial⟩,⟨_,(.refl _),by rw[kY hx cc]<;>rfl⟩,hm2,by dsimp only;omega⟩
  ·obtain rfl:m=b.insts.length:=by simp at cm;omega
   refine zu<|bA<|aI Z Z<|ab Z<|z7 ?_
   exact ⟨(k+1,ia),fT,⟨rfl,by rw[gT hb]<;>rfl,trivial⟩,⟨_,(.refl _),by rw[gT hb]<;>rfl⟩,hk2,by dsimp only;omega⟩
 ·obtain rfl:k=f.blocks.length:=by simp at ck;omega
  rw[yy]
  refine zz (bt.know (t:=3) (rows:=(pA 0 f.blocks).map d7) Z .head (by first|(intro r hr;obtain ⟨x,_,rfl⟩:=List.mem_map.1 hr;rfl)|simp[bX,bz,bm,aW,aO]) (by decide) (by simp))<|zu<|aj<|aY Z<|z8 (uv Z)<|z7<|zd<|zg (x:=.fro _ _) Z ?_
  rfl
theorem l3 (f:ap) (hf:small f) (hL:ac E) (ht:b8 f=false):aQ prog E 8 [.agg (bP f)] (.raw (.slice none 0 0)):=by
 have hty:=dI (E:=E) f hf hL
 rw[if_neg (by rw[ht];decide)] at hty
 refine zk func8 Z (by decide) Z<|aj<|zy (cs:=_) Z Z Z<|z8 (q6 Z)<|z7<|za<|aj<|aa j9 j5 Z Z<|zc (hty) Z<|aD Z Z<|z7<|y9 Z Z<|aj<|z8 (q6 Z)<|z7<|zd<|zg (x:=.raw _) Z ?_
 rfl
set_option maxHeartbeats 4000000 in
theorem em (f:ap) (hf:small f) (hop:∀b∈f.blocks,∀x∈b.insts,0≤x.op∧x.op≤26):aQ prog E 10 [.agg (bP f)] (.fro 2 ((pA 0 f.blocks).map d7)):=by
 have hnb:=hf.2.2.1
 refine zk func10 Z (by decide) Z<|aj<|zy (cs:=_) Z Z Z<|z8 (q6 Z)<|z7<|aj<|z8 (q6 Z)<|z7<|eM (t:=3) (k:=2) (T:=35) Z<|fun i3=>za<|aj<|ax j4 Z jp Z Z<|aU jw Z<|ad j8 Z<|ab Z<|z7<|zh<|zt (γ:=Nat × Nat) [9,10] (fun g=>[(11,.int .i64 g.1),(3,.own g.2 (pA 0 (f.blocks.take g.1)).length)]) (fun g=>[(g.2,.grow 2 35 ((pA 0 (f.blocks.take g.1)).map d7).flatten)]) (fun g=>g.1≤f.blocks.length) (fun g=>f.blocks.length - g.1) (0,i3) fT aX (yw _) ?_
 rintro ⟨k,ia⟩ hk
 try dsimp only at *
 refine aj<|aB Z Z<|z7<|za<|zq Z (fun ck=>?_) (fun ck=>?_)
 ·have hk2:k<f.blocks.length:=by simp at ck;omega
  obtain ⟨b,hb⟩:∃b,f.blocks[k]?=some b:=⟨_,yt hk2⟩
  have hbm:=List.mem_of_getElem? hb
  have hs1:=eV hf k
  have hbl:=(hf.2.2.2.2 b hbm).2.2.1
  refine ze<|za<|zh<|aj<|ab Z<|z8 (eO k j8 jg Z Z Z hb)<|aa Zc jg Z Z<|zo (cs:=[.str ⟨#[]⟩,.raw (.slice none 0 0),.raw (.slice none 0 0),.int .i64 0,.int .i64 0,.int .i64 0,.int .i64 0]) jt Z Z<|fun i5=>aw Z<|zm jg Z Z Z Z Z Z .head Z<|z7<|zz (ye (t:=5) Z .head)<|aj<|ax wy Z jl Z Z<|aU Z0 Z<|ad ja Z<|ab Z<|z7<|zh<|zt (γ:=Nat × Nat) [4,9,10,11,17,18] (fun g=>[(19,.int .i64 g.1),(3,.own g.2 (kB f k g.1 b).length)]) (fun g=>[(g.2,.grow 2 35 ((kB f k g.1 b).map d7).flatten)]) (fun g=>g.1≤b.insts.length) (fun g=>b.insts.length - g.1) (0,ia) ⟨Z,by rw[fK]<;>rfl,trivial⟩ ⟨_,(.refl _),by rw[fK]<;>rfl⟩ (yw _) ?_
  rintro ⟨m,ia⟩ hm
  try dsimp only at *
  have hs2:=l2 hf hbm k m
  have hfl:=nM (kB f k m b)
  have hpl:(kB f k m b).length≤2000000:=by unfold kB;rw[yz];omega
  refine aj<|aB Z Z<|z7<|za<|zq Z (fun cm=>?_) (fun cm=>?_)
  ·have hm2:m<b.insts.length:=by simp at cm;omega
   obtain ⟨x,hx⟩:∃x,b.insts[m]?=some x:=⟨_,yt hm2⟩
   refine ze<|za<|zh<|aj<|ab Z<|z8 (eO m ja jh Z Z Z hx)<|aa Z7 jh Z Z<|zo (cs:=[.int .i64 0,.int .i64 0,.raw (.slice none 0 0),.int .i64 0]) Z1 Z Z<|fun i7=>aw Z<|zm jh Z Z Z Z Z Z .head Z<|z7<|zz (ye (t:=7) Z .head)<|aj<|ax wz Z jx Z Z<|aP Z3 Z<|zc (l1 x.op (hop b hbm x (List.mem_of_getElem? hx))) Z<|z8 (ym Z Z)<|z7<|zn Z (fun cc=>?_) (fun cc=>?_)
   ·have cc:f7 x=true:=by
     unfold f7
     by_cases h:18≤x.op∧x.op≤24
     ·simp[h.1,h.2]
     ·rw[if_neg h] at cc;simp at cc
    refine bA<|z8 (zQ Z)<|ab Z<|ab Z<|z8 (Gv.buildA (cps:=[(0,[_]),(1,[_])]) (rs:=[_,_]) sg Z Z Z)<|yb (rows:=[[_,_]]) sO Z Z Z Z Z<|yi (k:=2) jo type35 Z Z Z Z Z (fun _=>.head) hfl (by decide) Z (by show (_+_)*16≤_;simp<;>omega) (by simp<;>omega)<|fun i33=>z8 (xE Z)<|z7<|bA<|aI Z Z<|ab Z<|z7 ?_
    exact ⟨(m+1,i33),uk,⟨rfl,by rw[gS hx cc,yz]<;>rfl,trivial⟩,⟨_,(.refl _),by rw[gS hx cc,nN]<;>rfl⟩,hm2,by dsimp only;omega⟩
   ·have cc:f7 x=false:=by
     unfold f7
     by_cases h:18≤x.op∧x.op≤24
     ·rw[if_pos h] at cc;simp at cc;omega
     ·simp;intro h2;omega
    refine ze<|bA<|aI Z Z<|ab Z<|z7 ?_
    exact ⟨(m+1,ia),uk,⟨rfl,by rw[kY hx cc]<;>rfl,trivial⟩,⟨_,(.refl _),by rw[kY hx cc]<;>rfl⟩,hm2,by dsimp only;omega⟩
  ·obtain rfl:m=b.insts.length:=by simp at cm;omega
   refine zu<|bA<|aI Z Z<|ab Z<|z7 ?_
   exact ⟨(k+1,ia),fT,⟨rfl,by rw[gT hb]<;>rfl,trivial⟩,⟨_,(.refl _),by rw[gT hb]<;>rfl⟩,hk2,by dsimp only;omega⟩
 ·obtain rfl:k=f.blocks.length:=by simp at ck;omega
  rw[yy]
  refine zz (bt.know (t:=3) (rows:=(pA 0 f.blocks).map d7) Z .head (by first|(intro r hr;obtain ⟨x,_,rfl⟩:=List.mem_map.1 hr;rfl)|simp[bX,bz,bm,aW,aO]) (by decide) (by simp))<|zu<|aj<|aY Z<|z8 (uv Z)<|z7<|zd<|zg (x:=.fro _ _) Z ?_
  rfl
theorem kZ (f:ap) (hf:small f) (hop:∀b∈f.blocks,∀x∈b.insts,0≤x.op∧x.op≤26) (j m:Nat):aQ prog E 17 [.agg (bP f),.int .i64 j,.int .i64 m] (.int .i64 (gr f j m)):=by
 have hs:=eV hf f.blocks.length
 rw[yy] at hs
 refine zk func17 Z (by decide) Z<|aj<|zy (cs:=_) Z Z Z<|aw Z<|z7<|za<|aj<|aa j9 j5 Z Z<|zc (em f hf hop) Z<|ad jo Z<|ab Z<|z7<|zh<|zt (γ:=Nat) [1,2,10,11] (fun n=>[(12,.int .i64 n)]) (fun n=>[]) (fun n=>n≤(pA 0 f.blocks).length∧∀q:Nat,q<n→(pA 0 f.blocks)[q]?≠some ((j:Int),(m:Int))) (fun n=>(pA 0 f.blocks).length - n) 0 bg aX (⟨yw _,fun q h=>absurd h (Nat.not_lt_zero _)⟩) ?_
 rintro n ⟨hn,hno⟩
 refine aj<|aB Z Z<|z7<|za<|zq Z (fun cn=>?_) (fun cn=>?_)
 ·have hn2:n<(pA 0 f.blocks).length:=by simp at cn;omega
  obtain ⟨z,hz⟩:∃z,(pA 0 f.blocks)[n]?=some z:=⟨_,yt hn2⟩
  refine ze<|za<|zh<|aj<|ab Z<|z8 (eO n jo jk Z Z Z hz)<|aa isAgg35 jk Z Z<|zo (cs:=[.int .i64 0,.int .i64 0]) zeroValue35 Z Z<|fun i8=>aw Z<|zm jk Z Z Z Z Z Z .head Z<|z7<|zz (ye (t:=8) Z .head)<|aj<|aa isAgg35 jk Z Z<|ab Z<|ab Z<|z8 (Gv.buildA (cps:=[(0,[_]),(1,[_])]) (rs:=[_,_]) sg Z Z Z)<|z8 (Gv.eqlP (xs:=[.int _ _,.int _ _]) (ys:=[.int _ _,.int _ _]) (by kernel_rfl) Z Z (fun w=>eP _ _ _ _ w))<|z7<|zn Z (fun ce=>?_) (fun ce=>?_)
  ·have ce:z=((j:Int),(m:Int)):=by obtain ⟨a,b⟩:=z;simpa using ce
   refine aj<|ab Z<|aw Z<|z7<|zd<|zg (x:=.int _ _) Z ?_
   rw[ru (by rw[hz,ce])]
  ·have ce:¬z=((j:Int),(m:Int)):=by obtain ⟨a,b⟩:=z;simpa using ce
   refine ze<|bA<|aI Z Z<|ab Z<|z7 ?_
   exact ⟨n+1,iv,bg,aX,⟨hn2,fun q hq=>by by_cases e:q=n;(subst e;rw[hz];exact fun h=>ce (Option.some.inj h));exact hno q (by omega)⟩,by omega⟩
 ·obtain rfl:n=(pA 0 f.blocks).length:=by simp at cn;omega
  have hmiss:gr f j m=-1:=mT fun q hq=>by
   have:=(List.getElem?_eq_some_iff.1 hq).1
   exact hno q this hq
  refine zu<|aj<|aw Z<|z7<|zd<|zg (x:=.int _ _) Z ?_
  rw[hmiss]
end
section
open Go.Proofs.Tryz
section
variable {E:World} {env:aE} {O O1 O':OL} {m i:Nat} {o:bi} {X X':OL}
end
theorem uW {I J:G} {id k:Nat} {T:TypeId} {rows:List (List AV)} {L:List (Nat × Obj)} (hk:∀r∈rows,r.length=k) (hk0:0<k) (h:ic I (id,.grow k T rows.flatten) L) (hle:I.le J) (hJ:∀x∈L,J.k x.1=some x.2) {v:Value} (hv:bu I (.own id rows.length) v):bu J (.fro k rows) v:=by
 obtain ⟨b,c,n,vs,e1,hvs,hvc,hown⟩:=h
 simp only at e1
 have hflat:=lI hk
 have hnm:n=rows.length:=by
  have h5:=hown.1
  have h6:=hvs.length
  have:n*k=rows.length*k:=by omega
  exact Nat.eq_of_mul_eq_mul_right hk0 this
 obtain ⟨b2,c2,e2,rfl⟩:=hv
 rw[e1] at e2
 simp only[Option.some.injEq,Prod.mk.injEq] at e2
 obtain ⟨rfl,rfl⟩:=e2
 obtain ⟨h5,h6,h7⟩:=hown
 rcases h7 with ⟨ea,rfl,rfl⟩|⟨b',junk,ea,rfl,hj⟩
 ·have h0:rows=[]:=List.eq_nil_of_length_eq_zero (by omega)
  subst h0
  exact ⟨lG b,0,0,rfl,rfl,Nat.le_refl _,fun _=>rfl,trivial⟩
 ·cases b with
  |none=>simp[lG] at ea
  |some b=>
   simp[lG] at ea
   subst ea
   have hb:=hJ _ (.head _)
   simp only at hb
   refine ⟨lG (some b),rows.length,c,Z,Z,by omega,fun h=>by simp[lG] at h,RepR.of_flat hb rows vs 0 hk (RepL.mono hle _ _ hvs) fun i u hu=>?_⟩
   rw[Nat.zero_mul,Nat.zero_add,List.getElem?_toArray,List.getElem?_append_left (List.getElem?_eq_some_iff.1 hu).1]
   exact hu
section
variable {E:World} {env:aE} {O O1 O':OL} {m i k:Nat} {T:TypeId} {cs cs':List AV} {X:OL}
end
end
section
open Go.Proofs.Tryz
end
section
open Go.Proofs.Tryz
section
variable {E:World} {P:Program} {n:Nat} {env:aE} {O O' O'':OL}
theorem ed.sameG {I J:G} {j off k2:Nat} {T:TypeId} {cs new:List AV} {x y:AV} (hle:I.le J) (hp:ed O j (.grow k2 T cs) (.grow k2 T new) O') (hc:cs[off]?=some x) (hnew:cs.set off y=new) (hxy:∀v,bu I x v→bu J y v)
  {L:List (Nat × Obj)} (hL:bk I O L):∃L',bk J O' L'∧L.Perm L':=by
 subst hnew
 obtain ⟨A,B,hp1,⟨b,c,n,vs,e1,hvs,hvc,hown⟩,hback⟩:=hp.rep hL
 obtain ⟨L',h1,h2⟩:=hback hle (A':=A) ⟨b,c,n,vs,hle.h _ _ e1,hvs.same hle hc hxy,hvc,hown⟩
 exact ⟨L',h1,hp1.trans h2.symm⟩
theorem rB {j off k k2:Nat} {T T':TypeId} {cs:List AV} {new:Nat→List AV} {c:Code} {Q:Exit→aE→OL→Prop} {f:Nat→OL} (hP:∀i,ed O j (.grow k2 T' cs) (.grow k2 T' (new i)) (f i)) (hnew:∀i,cs.set off (.own i 0)=new i) (hc:cs[off]?=some (.raw (.slice none 0 0)))
  (h:∀i,bQ P E n c Q env ((i,.grow k T [])::f i)):bQ P E n c Q env O:=fun I F ρ w h1 h2=>by
 obtain ⟨i,hi⟩:=h2.name
 obtain ⟨J,e1,hle,e2,htop⟩:=hi (none,0)
 obtain ⟨_,L,hL,hS⟩:=h2
 obtain ⟨L',h3,h4⟩:=ed.sameG hle (hP i) hc (hnew i) (fun v hv=>⟨none,0,e2,hv⟩) hL
 exact (h i J F ρ w (h1.mono hle) ⟨htop,_,⟨[],L',rfl,⟨none,0,0,[],e2,rfl,by simp,fj.nil k T⟩,h3⟩,by rw[e1];exact hS.perm (h4.symm.append_right F)⟩).mono fun _ _ _=>fC.up hle
theorem sP {I:G} {F:List (Nat × Obj)} {E w:World} {i k m:Nat} {T:TypeId} {rows:List (List AV)} (hO:cF O i (.grow k T rows.flatten) O') (hk:∀r∈rows,r.length=k) (hk0:0<k) (hm:rows.length=m) (h:dV I O F E w) :
  ∃J B,I.le J∧bk I O' B∧(∃top,∀i,top≤i→J.h i=none)∧SL J.k (B++F) E w∧∀v,bu I (.own i m) v→bu J (.fro k rows) v:=by
 obtain ⟨ht,L,hL,hS⟩:=h
 obtain ⟨A,B,hp,hA,hB⟩:=hO.rep hL
 have hS2:SL I.k (A++(B++F)) E w:=hS.perm (by rw[←yv];exact (hp.append_right F).symm)
 obtain ⟨J,j1,j2,j3⟩:=SL.freezeAllN hS2
 have hle:I.le ⟨J,I.h⟩:=⟨j1,fun _ _ h=>h⟩
 subst hm
 exact ⟨⟨J,I.h⟩,B,hle,hB,ht,j2,fun v hv=>uW hk hk0 hA hle j3 hv⟩
theorem bt.knowG {j off i k k2 m:Nat} {T T':TypeId} {cs new:List AV} {rows:List (List AV)} (hO:cF O i (.grow k T rows.flatten) O') (hP:ed O' j (.grow k2 T' cs) (.grow k2 T' new) O'') (hc:cs[off]?=some (.own i m)) (hnew:cs.set off (.fro k rows)=new)
  (hk:∀r∈rows,r.length=k) (hk0:0<k) (hm:rows.length=m):bt E env O env O'':=fun I F ρ w h1 h2=>by
 obtain ⟨J,B,hle,hB,htop,hS,h4⟩:=sP hO hk hk0 hm h2
 obtain ⟨L',h5,h6⟩:=ed.sameG hle hP hc hnew h4 hB
 exact ⟨J,hle,h1.mono hle,htop,L',h5,hS.perm (h6.symm.append_right F)⟩
end
end
end Go.Proofs.YtbconpmnckokoaaGreatDoor
