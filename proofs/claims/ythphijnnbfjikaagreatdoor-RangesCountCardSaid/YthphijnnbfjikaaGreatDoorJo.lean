/- The document's rules; what each has first; the order of a round. Of programs that are little. -/
import Derived.Test.YthphijnnbfjikaaGreatDoorJi
import Derived.Test.YthphijnnbfjikaaGreatDoorJj
import Derived.Test.YthphijnnbfjikaaGreatDoorJd
import Derived.Test.YthphijnnbfjikaaGreatDoorJn
set_option linter.unusedVariables false
set_option linter.unusedSimpArgs false
set_option linter.unusedSectionVars false
namespace Go.Proofs.YthphijnnbfjikaaGreatDoor
section
open Go.Proofs.Tryz
open Go.Proofs
theorem E3:eD prog 226 #[(0,2),(2,1)] [.int .i64 0,.int .i64 0,.bool false]:=⟨_,_,Zp,zeroValue226,fun w=>by kernel_rfl,rfl⟩
theorem xf:gM prog 231 1 [.int .i64 0,.int .i64 0]:=⟨_,_,_,underlying231,zeroValue231,jp,rfl⟩
theorem Hz:gM prog 236 2 [.int .i64 0,.int .i64 0,.int .i64 0,.int .i64 0]:=⟨_,_,_,underlying236,zeroValue236,jf,rfl⟩
variable {E:World}
set_option maxRecDepth 20000
theorem Io {x y:Int} (hx:aK x) (hy:aK y):aF prog E 172 [.int .i64 x,.int .i64 y] (.tup [.int .i64 (IntKind.i64.wrap (x*y)),.bool (decide (dU 2 x y))]):=by
 rw[←Ic]
 refine zk func172 Z (by decide) Z<|ae<|aq Z<|ad Z<|z6<|ae<|aa Z<|zg (Hv hx) Z<|aa Z<|zg (Hv hy) Z<|zg (vl _ _ (BU hx) (BU hy)) Z<|z7 (vX Z)<|z7 (r8 Z Z)<|z7 (r8 Z Z)<|aq Z<|aq Z<|z6<|ae<|aq Z<|z6<|ze<|ae<|aa Z<|ax Z Z<|aa Z<|ax Z Z<|z7 (Gv.neqB Zo Z Z)<|z6<|ym (γ:=Int) [0,1,6,7] (fun m=>[(8,.int .u64 m)]) (fun m=>[]) (fun m=>m=if (!(decide (x<0) == decide (y<0)))=true then 9223372036854775808 else 9223372036854775807) ?_ (fun _ _ h=>h) ?_
 ·refine zz Z (fun c1=>?_) (fun c1=>?_)
  ·refine bD<|aa Z<|z7 (Gv.addW Z Z)<|aq Z<|z6 ?_
   exact ⟨_,mB,aT,aJ,by simp_all<;>first|rfl|decide⟩
  ·refine zi ?_
   exact ⟨_,mB,aT,aJ,by simp_all<;>first|rfl|decide⟩
 ·rintro m hm
  subst hm
  refine ae<|aa Z<|aa Z<|z7 (Gv.mulW Z Z)<|aa Z<|ak Z Z<|ay Z<|zx (s:=29) Z (fun c2=>?_) (fun c2=>?_)
  ·refine za Z Z c2<|aa Z<|za Z Z c2<|aa Z<|za Z Z c2<|z7 (Gv.leq Z Z)<|aM Z c2 Z<|aq Z<|ad Z<|z6<|zh<|dB.t2 (x:=.int _ _) (y:=.bool _) Z Z ?_
   simp_all
  ·refine z8 Z Z c2<|z8 Z Z c2<|z8 Z Z c2<|aD Z c2 Z<|aq Z<|ad Z<|z6<|zh<|dB.t2 (x:=.int _ _) (y:=.bool _) Z Z ?_
   simp_all
theorem jH (i:Nat) (h:aA × Bool) (n:Int) (fits:Bool) (e:Int):aU prog E 169 [.po i 0,.int .i64 n,.bool fits,.int .i64 e] [(i,.cells 226 (rp h))] fun r O=>r=.tup []∧O=[(i,.cells 226 (rp (ky h n fits e)))]:=by
 refine zk func169 Z (by decide) Z<|ze<|ae<|ay Z<|z7 (yo Z)<|z6<|ym (γ:=Int × Bool) [0] (fun g=>[(1,.int .i64 g.1)]) (fun g=>[(i,.cells 226 (rp (h.1,g.2)))]) (fun g=>g.1=(if fits then n else e)∧g.2=(h.2||!fits)) ?_ (fun _ _ h=>h) ?_
 ·refine zz Z (fun c=>?_) (fun c=>?_)
  ·refine bD<|z7 (j7 Z)<|aa Z<|z7 (yj Z)<|z7 (y0 Zp Z Zr (by decide) Z Z)<|q8 (l:=[_]) (new:=[_,_,_]) Zr Z Z Z Z Z Z .head Z Z<|aq Z<|z6 ?_
   exact ⟨(e,true),aT,aT,aJ,by simp_all⟩
  ·refine zi ?_
   exact ⟨(n,h.2),aT,aT,aJ,by simp_all⟩
 ·rintro ⟨m,w⟩ ⟨h1,h2⟩
  dsimp only at h1 h2
  subst h1 h2
  refine zw (fun j=>Nat.beq j 10) (by kernel_rfl) Z (zn (.r (.rest _)))<|ao 0 Z (j7 Z)<|ao 1 Z (j7 Z)<|ao 2 Z (yj Z)<|ao 3 Z (y0 Zp Z jf (by decide) Z Z)<|ao 4 Z (yf (l:=[_,_]) jg jf Z ⟨_,.head⟩ Z Z)<|ao 5 Z (fC Z)<|aL 6 Z<|zg (EZ _) Z<|z6<|aL 7 Z<|zg (wX _ _) Z<|z6<|bt.takeK (i:=8) Z (by kernel_rfl) (by kernel_rfl) (by kernel_rfl) (by kernel_rfl) (yj Z)<|ao 9 Z (y0 Zp Z jf (by decide) Z Z)<|yu<|yz (i:=10) Z (by kernel_rfl) (by kernel_rfl)<|q8 (l:=[_,_]) (new:=[_,_,_]) jf Z Z Z Z Z Z .head Z Z<|z6<|yx (by kernel_rfl)<|dB.t0 ?_
  exact ⟨rfl,rfl⟩
set_option maxHeartbeats 4000000 in
theorem tR (op:Int) (k:Nat) (hk:k≤2) (hop:op=2+(k:Int)) {a b:aA} (ha:bb a) (hb:bb b):aF prog E 160 [.int .i64 op,.agg (bk a),.agg (bk b)] (.agg (rp (oc k a b))):=by
 obtain ⟨st,hst⟩:∃st,GB (pD k) (fun x y=>decide (dU k x y)) (j6 k) (bw,false) a b=st:=⟨_,rfl⟩
 have hstep:∀(i j:Nat),j<2→st (2*i+(j+1))=ky (st (2*i+j)) (pD k (cX a i) (cX b j)) (decide (dU k (cX a i) (cX b j))) (j6 k (cX a i) (cX b j)):=fun i j hj=>by rw[←hst];exact sX i hj
 have h4:st 4=oc k a b:=by rw[←hst];rfl
 have h0:st 0=(bw,false):=by rw[←hst];rfl
 refine zk func160 Z (by decide) Z<|ae<|zy (cs:=_) Z Z Z<|zy (cs:=_) Z Z Z<|zo (cs:=[.int .i64 0,.int .i64 0,.bool false]) zeroValue226 Z Z<|fun i6=>z6<|ae<|zg (fD) Z<|z7 (zt (cps:=[(0,[_,_])]) (rs:=[_,_,.bool false]) E3 Z Z Z)<|zo (cs:=[.int .i64 0,.int .i64 0,.bool false]) zeroValue226 Z Z<|fun i7=>zf sizeOf226 Z Z Z Z Z Z .head Z<|z6<|ze<|ae<|aj ji Z jp Z Z<|aw ju Z<|aj ji Z jp Z Z<|aw ju Z<|z7 (Gv.buildA (cps:=[(0,[_]),(1,[_])]) (rs:=[_,_]) xf Z Z Z)<|aa Z<|z6<|zj<|ya (γ:=Nat) [0,5,6,7,24] (fun i=>[(25,.int .i64 i)]) (fun i=>[(i7,.cells 226 (rp (st (2*i)))),(i6,.cells 226 [.int .i64 0,.int .i64 0,.bool false])]) (fun i=>i≤2) (fun i=>2 - i) 0 aT ⟨_,(.refl _),by rw[h0];rfl⟩ ((by omega)) ?_
 rintro i hi
 refine ae<|ax Z Z<|z6<|ze<|zp Z (fun ci=>?_) (fun ci=>?_)
 ·have hi2:i<2:=by omega
  have hx:=uY ha i
  refine zi<|ze<|zj<|ae<|z7 (Gv.index1 (n:=2) (j:=i) (cs:=[.int .i64 a.1,.int .i64 a.2]) (v:=.int .i64 (cX a i)) underlying231 ju jp Z Z Z hi2 (m1 hi2))<|aq Z<|z6<|ae<|aj ji Z jp Z Z<|aw ju Z<|aj ji Z jp Z Z<|aw ju Z<|z7 (Gv.buildA (cps:=[(0,[_]),(1,[_])]) (rs:=[_,_]) xf Z Z Z)<|aa Z<|z6<|zj<|ya (γ:=Nat) [0,5,6,7,9,24,25,32] (fun j=>[(33,.int .i64 j)]) (fun j=>[(i7,.cells 226 (rp (st (2*i+j)))),(i6,.cells 226 [.int .i64 0,.int .i64 0,.bool false])]) (fun j=>j≤2) (fun j=>2 - j) 0 aT aJ ((by omega)) ?_
  rintro j hj
  refine ae<|ax Z Z<|z6<|ze<|zp Z (fun cj=>?_) (fun cj=>?_)
  ·have hj2:j<2:=by omega
   have hy:=uY hb j
   have hs:=hstep i j hj2
   refine zi<|ze<|zj<|ae<|z7 (Gv.index1 (n:=2) (j:=j) (cs:=[.int .i64 b.1,.int .i64 b.2]) (v:=.int .i64 (cX b j)) underlying231 ju jp Z Z Z hj2 (m1 hj2))<|aq Z<|z6<|ae<|aa Z<|z6<|zj<|ae<|ak Z Z<|ad Z<|z6<|zp Z (fun c2=>?_) (fun c2=>?_)
   ·have hk0:k=0:=by omega
    subst hk0
    refine ae<|aa Z<|aa Z<|zg (Id hx hy) Z<|z7 (vX Z)<|z7 (r8 Z Z)<|z7 (C9 Z Z)<|aq Z<|ad Z<|z6<|bD<|aa Z<|ay Z<|aa Z<|ax Z Z<|zg (Ct _) Z<|zq Z (zn (.l (.r (.rest _)))) (jH i7 _ _ _ _) ?_
    rintro r50 O50 ⟨rfl,rfl⟩
    refine z6<|bD<|aQ Z Z<|aa Z<|z6 ?_
    exact ⟨j+1,yE,aT,⟨_,(.refl _),by rw[hs,jB DO (Fx _ (cX b j))];rfl⟩,hj2,by omega⟩
   ·refine ae<|ak Z Z<|ad Z<|z6<|zp Z (fun c3=>?_) (fun c3=>?_)
    ·have hk0:k=1:=by omega
     subst hk0
     refine ae<|aa Z<|aa Z<|zg (Ie hx hy) Z<|z7 (vX Z)<|z7 (r8 Z Z)<|z7 (C9 Z Z)<|aq Z<|ad Z<|z6<|bD<|aa Z<|ay Z<|aa Z<|ax Z Z<|zg (Ct _) Z<|zq Z (zn (.l (.r (.rest _)))) (jH i7 _ _ _ _) ?_
     rintro r64 O64 ⟨rfl,rfl⟩
     refine z6<|bD<|aQ Z Z<|aa Z<|z6 ?_
     exact ⟨j+1,yE,aT,⟨_,(.refl _),by rw[hs,jB DP (Fy _ (cX b j))];rfl⟩,hj2,by omega⟩
    ·refine ae<|ak Z Z<|ad Z<|z6<|zp Z (fun c4=>?_) (fun c4=>?_)
     ·have hk0:k=2:=by omega
      subst hk0
      refine ae<|aa Z<|aa Z<|zg (Io hx hy) Z<|z7 (vX Z)<|z7 (r8 Z Z)<|z7 (C9 Z Z)<|aq Z<|ad Z<|z6<|bD<|aa Z<|ay Z<|aa Z<|ax Z Z<|aa Z<|ax Z Z<|z7 (Gv.neqB Zo Z Z)<|zg (Ct _) Z<|zq Z (zn (.l (.r (.rest _)))) (jH i7 _ _ _ _) ?_
      rintro r81 O81 ⟨rfl,rfl⟩
      refine z6<|bD<|aQ Z Z<|aa Z<|z6 ?_
      exact ⟨j+1,yE,aT,⟨_,(.refl _),by rw[hs,jB BS (Fz _ (cX b j))];rfl⟩,hj2,by omega⟩
     ·exfalso;omega
  ·have hj2:j=2:=by omega
   subst hj2
   refine y8<|bD<|aQ Z Z<|aa Z<|z6 ?_
   exact ⟨i+1,oV,aT,⟨_,(.refl _),by rw[show 2*(i+1)=2*i+2 by omega]⟩,hi2,by omega⟩
 ·have hi2:i=2:=by omega
  subst hi2
  refine y8<|ae<|z7 (q0 isAgg226 sizeOf226 Z ⟨_,.head⟩ Z)<|zf sizeOf226 Z Z Z Z Z Z .t1 Z<|z6<|zh<|yc Z ⟨_,.t1⟩ isAgg226 sizeOf226 Z ?_
  rw[←h4];try rfl
theorem HA {a b:aA} (ha:bb a):aF prog E 161 [.agg (bk a),.agg (bk b)] (.agg (bk (pR a b))):=by
 have h0:o9 a b 0=(bw,false):=rfl
 refine zk func161 Z (by decide) Z<|ae<|zy (cs:=_) Z Z Z<|zy (cs:=_) Z Z Z<|zo (cs:=[.int .i64 0,.int .i64 0]) jk Z Z<|fun i4=>z6<|ae<|zg (fD) Z<|z7 (zt (cps:=[(0,[_,_])]) (rs:=[_,_,.bool false]) E3 Z Z Z)<|zo (cs:=[.int .i64 0,.int .i64 0,.bool false]) zeroValue226 Z Z<|fun i5=>zf sizeOf226 Z Z Z Z Z Z .head Z<|z6<|ze<|ze<|zw (fun j=>false) (by kernel_rfl) Z (zn (.rest _))<|ao 0 Z (yl jg jf Z Z)<|ao 1 Z (zt (cps:=[(0,[_]),(1,[_])]) (rs:=[_,_]) iI Z Z Z)<|ao 3 Z (yl jg jf Z Z)<|ao 4 Z (zt (cps:=[(0,[_]),(1,[_])]) (rs:=[_,_]) iI Z Z Z)<|ao 7 Z (fC Z)<|aL 2 Z<|zg (lm b (dy,-1)) Z<|z6<|aL 5 Z<|zg (lm b (1,dz)) Z<|z6<|ao 6 Z (Gv.buildA (cps:=[(0,[_,_]),(1,[_,_])]) (rs:=[_,_,_,_]) Hz Z Z Z)<|bO<|zj<|ya (γ:=Nat) [2,4,5,22] (fun q=>[(23,.int .i64 q)]) (fun q=>[(i5,.cells 226 (rp (o9 a b q))),(i4,.cells 36 [.int .i64 0,.int .i64 0])]) (fun q=>q≤2) (fun q=>2 - q) 0 aT aJ ((by omega)) ?_
 rintro q hq
 refine ae<|ax Z Z<|z6<|ze<|zp Z (fun cq=>?_) (fun cq=>?_)
 ·have hq2:q<2:=by omega
  have hqs:o9 a b (q+1)=ld a (l8 b q) (o9 a b q):=rfl
  obtain ⟨p,hp⟩:∃p,l8 b q=p:=⟨_,rfl⟩
  have hpg:=BW (b:=b) hq2
  rw[hp] at hqs hpg
  refine zi<|ze<|zj<|ae<|z7 (Gv.indexA (n:=2) (j:=q) (k:=2) (cs:=bk (aR b (dy,-1))++bk (aR b (1,dz))) (l:=bk p) underlying236 jg jf Z Z Z hq2 hpg)<|zo (cs:=[.int .i64 0,.int .i64 0]) jk Z Z<|fun i7=>zf jf Z Z Z Z Z Z .head Z<|z6<|yh (yk (t:=7) Z .head)<|ze<|ae<|ab jg jf Z Z<|zg (di _) Z<|z6<|zp Z (fun ce=>?_) (fun ce=>?_)
  ·refine y8<|bD<|aQ Z Z<|aa Z<|z6 ?_
   exact ⟨q+1,mB,aT,⟨_,(.refl _),by rw[hqs,ld,if_pos ce]⟩,hq2,by omega⟩
  ·obtain ⟨st,hst⟩:∃st,GB Int.tdiv eB (fun _ _=>dz) (o9 a b q) a p=st:=⟨_,rfl⟩
   have hstep:∀(i j:Nat),j<2→st (2*i+(j+1))=ky (st (2*i+j)) ((cX a i).tdiv (cX p j)) (eB (cX a i) (cX p j)) dz:=fun i j hj=>by rw[←hst];exact sX i hj
   have h4:st 4=o9 a b (q+1):=by rw[hqs,ld,if_neg ce,←hst];rfl
   have hs0:st 0=o9 a b q:=by rw[←hst];rfl
   refine zi<|ae<|aj ji Z jp Z Z<|aw ju Z<|aj ji Z jp Z Z<|aw ju Z<|z7 (Gv.buildA (cps:=[(0,[_]),(1,[_])]) (rs:=[_,_]) xf Z Z Z)<|aa Z<|z6<|zj<|ya (γ:=Nat) [2,4,5,7,22,23,32] (fun i=>[(33,.int .i64 i)]) (fun i=>[(i5,.cells 226 (rp (st (2*i)))),(i4,.cells 36 [.int .i64 0,.int .i64 0])]) (fun i=>i≤2) (fun i=>2 - i) 0 aT ⟨_,(.refl _),by rw[hs0]⟩ ((by omega)) ?_
   rintro i hi
   refine ae<|ax Z Z<|z6<|ze<|zp Z (fun ci=>?_) (fun ci=>?_)
   ·have hi2:i<2:=by omega
    have hx:=uY ha i
    refine zi<|ze<|zj<|ae<|z7 (Gv.index1 (n:=2) (j:=i) (cs:=[.int .i64 a.1,.int .i64 a.2]) (v:=.int .i64 (cX a i)) underlying231 ju jp Z Z Z hi2 (m1 hi2))<|aq Z<|z6<|ae<|aj ji Z jp Z Z<|aw ju Z<|aj ji Z jp Z Z<|aw ju Z<|z7 (Gv.buildA (cps:=[(0,[_]),(1,[_])]) (rs:=[_,_]) xf Z Z Z)<|aa Z<|z6<|zj<|ya (γ:=Nat) [2,4,5,7,9,22,23,32,33,40] (fun j=>[(41,.int .i64 j)]) (fun j=>[(i5,.cells 226 (rp (st (2*i+j)))),(i4,.cells 36 [.int .i64 0,.int .i64 0])]) (fun j=>j≤2) (fun j=>2 - j) 0 aT aJ ((by omega)) ?_
    rintro j hj
    refine ae<|ax Z Z<|z6<|ze<|zp Z (fun cj=>?_) (fun cj=>?_)
    ·have hj2:j<2:=by omega
     have hs:=hstep i j hj2
     have hy:cX p j≠0:=by have:=DQ (b:=b) (q:=q) (j:=j) (by rw[hp];exact ce);rwa [hp] at this
     refine zi<|ze<|zj<|ae<|z7 (Gv.index1 (n:=2) (j:=j) (cs:=[.int .i64 p.1,.int .i64 p.2]) (v:=.int .i64 (cX p j)) underlying231 ju jp Z Z Z hj2 (m1 hj2))<|aq Z<|z6<|ae<|aa Z<|aa Z<|zg (Ig hy) Z<|z7 (vX Z)<|z7 (r8 Z Z)<|z7 (C9 Z Z)<|aq Z<|ad Z<|z6<|bD<|aa Z<|aa Z<|z7 (yw Z Z)<|ay Z<|zx (s:=53) Z (fun c1=>?_) (fun c1=>?_)
     ·have hf:eB (cX a i) (cX p j)=true:=by unfold eB;simp_all[dy]
      refine z8 Z Z c1<|z8 Z Z c1<|aM Z c1 Z<|zq Z (zn (.l (.r (.rest _)))) (jH i5 _ _ _ _) ?_
      rintro r57 O57 ⟨rfl,rfl⟩
      refine z6<|bD<|aQ Z Z<|aa Z<|z6 ?_
      exact ⟨j+1,nI,aT,⟨_,(.refl _),by rw[hs,hf,jB (fits:=true) (fun _=>wv hx hy hf) (show (9223372036854775807:Int)=dz from rfl)];rfl⟩,hj2,by omega⟩
     ·have hf:eB (cX a i) (cX p j)=!decide (cX p j=-1):=by unfold eB;simp_all[dy]
      refine za Z Z c1<|aa Z<|za Z Z c1<|z7 (yw Z Z)<|aD Z c1 Z<|zq Z (zn (.l (.r (.rest _)))) (jH i5 _ _ _ _) ?_
      rintro r57 O57 ⟨rfl,rfl⟩
      refine z6<|bD<|aQ Z Z<|aa Z<|z6 ?_
      exact ⟨j+1,nI,aT,⟨_,(.refl _),by rw[hs,hf,jB (fits:=!decide (cX p j=-1)) (fun h=>wv hx hy (by rw[hf];exact h)) (show (9223372036854775807:Int)=dz from rfl)];rfl⟩,hj2,by omega⟩
    ·have hj2:j=2:=by omega
     subst hj2
     refine y8<|bD<|aQ Z Z<|aa Z<|z6 ?_
     exact ⟨i+1,Aw,aT,⟨_,(.refl _),by rw[show 2*(i+1)=2*i+2 by omega]⟩,hi2,by omega⟩
   ·have hi2:i=2:=by omega
    subst hi2
    refine y8<|bD<|aQ Z Z<|aa Z<|z6 ?_
    exact ⟨q+1,mB,aT,⟨_,(.refl _),by rw[←h4]⟩,hq2,by omega⟩
 ·have hq2:q=2:=by omega
  subst hq2
  refine y8<|ze<|ae<|z7 (y0 Zp Z Zr (by decide) Z Z)<|z7 (yd (c:=.bool _) isAgg4 Z ⟨_,.head⟩ Z)<|z6<|zz Z (fun cw=>?_) (fun cw=>?_)
  ·refine ae<|zg (Cs) Z<|zf jf Z Z Z Z Z Z .t1 Z<|z6<|zh<|yc Z ⟨_,.t1⟩ jg jf Z ?_
   rw[BV,if_pos cw];try rfl
  ·refine zi<|ae<|z7 (y0 Zp Z jf (by decide) Z Z)<|z7 (yf (l:=[_,_]) jg jf Z ⟨_,.head⟩ Z Z)<|zf jf Z Z Z Z Z Z .t1 Z<|z6<|zh<|yc Z ⟨_,.t1⟩ jg jf Z ?_
   rw[BV,if_neg (by simpa using cw)];try rfl
theorem Gg {a b:aA} (ha:bb a) (hb:bb b):aF prog E 162 [.agg (bk a),.agg (bk b)] (.agg (bk (l7 a b))):=by
 have ha1:=ha.1;have ha2:=ha.2;have hb1:=hb.1;have hb2:=hb.2
 unfold aK at ha1 ha2 hb1 hb2
 refine zk func162 Z (by decide) Z<|ae<|zy (cs:=_) Z Z Z<|zy (cs:=_) Z Z Z<|zo (cs:=[.int .i64 0,.int .i64 0]) jk Z Z<|fun i4=>z6<|ze<|ze<|zw (fun j=>false) (by kernel_rfl) Z (zn (.rest _))<|ao 0 Z (yl jg jf Z Z)<|aL 1 Z<|zg (EZ _) Z<|z6<|ao 2 Z (Gv.eqlP (xs:=[.int _ _,.int _ _]) (ys:=[.int _ _,.int _ _]) (by kernel_rfl) Z Z (fun w=>eL _ _ _ _ w))<|bO<|zp Z (fun c0=>?_) (fun c0=>?_)
 ·refine ae<|zg (fD) Z<|zf jf Z Z Z Z Z Z .head Z<|z6<|zh<|yc Z ⟨_,.head⟩ jg jf Z ?_
  rw[l7,if_pos (by obtain ⟨b1,b2⟩:=b;obtain ⟨h1,h2⟩:=c0;exact Prod.ext h1 h2)];try rfl
 ·have c0:¬b=(0,0):=fun e=>c0 (by rw[e];exact ⟨rfl,rfl⟩)
  refine zi<|ae<|aq Z<|z6<|ze<|ae<|aj ji Z jp Z Z<|aw ju Z<|ax Z Z<|z6<|ym (γ:=Int) [2,3,4] (fun k=>[(5,.int .i64 k)]) (fun k=>[(i4,.cells 36 [.int .i64 0,.int .i64 0])]) (fun k=>k=if b.1<0 then -(b.1+1) else 0) ?_ (fun _ _ h=>h) ?_
  ·refine zp Z (fun c1=>?_) (fun c1=>?_)
   ·refine bD<|aj ji Z jp Z Z<|aw ju Z<|aQ Z Z<|z7 (Gv.neg Z)<|aq Z<|z6 ?_
    exact ⟨IntKind.i64.wrap (0 - (b.1+1)),bX,aT,aJ,by rw[if_pos c1,eH (by unfold aK;omega)];omega⟩
   ·refine zi ?_
    exact ⟨0,bX,aT,aJ,by rw[if_neg c1]⟩
  ·rintro k hk
   have hkr:0≤k∧k≤9223372036854775807:=by rw[hk];split<;>omega
   refine ze<|ae<|aj ji Z jp Z Z<|aw ju Z<|z7 (Gv.gtr Z Z)<|z6<|ym (γ:=Int) [2,4] (fun m=>[(5,.int .i64 m)]) (fun m=>[(i4,.cells 36 [.int .i64 0,.int .i64 0])]) (fun m=>m=if 0<b.2 then bK k (b.2 - 1) else k) ?_ (fun _ _ h=>h) ?_
   ·refine zp Z (fun c1=>?_) (fun c1=>?_)
    ·refine bD<|aa Z<|aj ji Z jp Z Z<|aw ju Z<|z7 (Gv.sub Z Z (by unfold pq;omega))<|z7 (Gv.maxI Z Z)<|aq Z<|z6 ?_
     exact ⟨bK k (b.2 - 1),cU,aT,aJ,by rw[if_pos c1]⟩
    ·refine zi ?_
     exact ⟨k,cU,aT,aJ,by rw[if_neg c1]⟩
   ·rintro m hm
    have hmr:0≤m∧m≤9223372036854775807:=by rw[hm];unfold bK;(repeat' split)<;>omega
    have hr:l7 a b=(if a.1<0 then bK a.1 (-m) else 0,if 0<a.2 then b5 a.2 m else 0):=by subst hm hk;rw[l7,if_neg c0]
    rw[hr]
    refine ae<|zg (EZ _) Z<|zo (cs:=[.int .i64 0,.int .i64 0]) jk Z Z<|fun i6=>zf jf Z Z Z Z Z Z .head Z<|z6<|ze<|ae<|aj ji Z jp Z Z<|aw ju Z<|ax Z Z<|z6<|ym (γ:=Int) [2,4,5,6] (fun x=>[]) (fun x=>[(i6,.cells 36 [.int .i64 x,.int .i64 0]),(i4,.cells 36 [.int .i64 0,.int .i64 0])]) (fun x=>x=if a.1<0 then bK a.1 (-m) else 0) ?_ (fun _ _ h=>h) ?_
    ·refine zp Z (fun c1=>?_) (fun c1=>?_)
     ·refine bD<|aj ji Z jp Z Z<|aw ju Z<|aa Z<|z7 (Gv.neg Z)<|z7 (Gv.maxI Z Z)<|z7 (y0 ji Z jp (by decide) Z Z)<|q8 (l:=[_]) (new:=[_,_]) jp Z Z Z Z Z Z .head Z Z<|z6 ?_
      exact ⟨bK a.1 (IntKind.i64.wrap (0 - m)),mB,trivial,aJ,by rw[if_pos c1,eH (by unfold aK;omega),Int.zero_sub]⟩
     ·refine zi ?_
      exact ⟨0,mB,trivial,aJ,by rw[if_neg c1]⟩
    ·rintro x hx
     refine ze<|ae<|aj ji Z jp Z Z<|aw ju Z<|z7 (Gv.gtr Z Z)<|z6<|zp Z (fun c1=>?_) (fun c1=>?_)
     ·refine bD<|aj ji Z jp Z Z<|aw ju Z<|aa Z<|z7 (Gv.minI Z Z)<|z7 (y0 ji Z jp (by decide) Z Z)<|q8 (l:=[_]) (new:=[_,_]) jp Z Z Z Z Z Z .head Z Z<|z6<|ae<|z7 (q0 jg jf Z ⟨_,.head⟩ Z)<|zf jf Z Z Z Z Z Z .t1 Z<|z6<|zh<|yc Z ⟨_,.t1⟩ jg jf Z ?_
      rw[←hx,if_pos c1];try rfl
     ·refine zi<|ae<|z7 (q0 jg jf Z ⟨_,.head⟩ Z)<|zf jf Z Z Z Z Z Z .t1 Z<|z6<|zh<|yc Z ⟨_,.t1⟩ jg jf Z ?_
      rw[←hx,if_neg c1];try rfl
def ff (op:Int) (a b:aA):aA:=
 if a.2<a.1∨b.2<b.1 then bw else if op=2 then lM 0 a b false else if op=3 then lM 1 a b false else if op=4 then lM 2 a b false else if op=5 then pR a b else if op=6 then l7 a b else iW
def oP (op:Int) (a b:aA):aA:=
 if a.2<a.1∨b.2<b.1 then bw else if op=2 then lM 0 a b true else if op=3 then lM 1 a b true else if op=4 then lM 2 a b true else if op=5 then pR a b else if op=6 then l7 a b else iW
theorem vA {op:Int} (h:op=2∨op=3∨op=4):∃k:Nat,k≤2∧op=2+(k:Int):=⟨(op - 2).toNat,by omega,by omega⟩
theorem lU {op:Int} {k:Nat} (hk:k≤2) (h:op=2+(k:Int)) {a b:aA} (hn:¬(a.2<a.1∨b.2<b.1)):ff op a b=lM k a b false∧oP op a b=lM k a b true:=by
 unfold ff oP
 rw[if_neg hn,if_neg hn]
 rcases (by omega:k=0∨k=1∨k=2) with rfl|rfl|rfl<;>subst h<;>exact ⟨rfl,rfl⟩
theorem vB {op:Int} {a b:aA} (hc:(a.2<a.1∨b.2<b.1)∨¬(op=2∨op=3∨op=4)):ff op a b=oP op a b:=by
 unfold ff oP
 by_cases h:a.2<a.1∨b.2<b.1
 ·rw[if_pos h,if_pos h]
 ·have hs:¬(op=2∨op=3∨op=4):=hc.resolve_left h
  rw[not_or,not_or] at hs
  obtain ⟨h2,h3,h4⟩:=hs
  rw[if_neg h,if_neg h]
  simp only[h2,h3,h4,if_false]
theorem vC (op:Int) {a b:aA} (ha:bb a) (hb:bb b):aF prog E 142 [.int .i64 op,.agg (bk a),.agg (bk b)] (.agg (bk (ff op a b))):=by
 refine zk func142 Z (by decide) Z<|ae<|zy (cs:=_) Z Z Z<|zy (cs:=_) Z Z Z<|zo (cs:=[.int .i64 0,.int .i64 0]) jk Z Z<|fun i6=>z6<|ze<|zj<|ze<|ym (γ:=Bool) [0,4,5,6] (fun u=>[(8,.bool u)]) (fun u=>[(i6,.cells 36 [.int .i64 0,.int .i64 0])]) (fun u=>u=decide (a.2<a.1∨b.2<b.1)) ?_ (fun _ _ h=>h) ?_
 ·refine bD<|ab jg jf Z Z<|zg (di _) Z<|ay Z<|zx (s:=11) Z (fun c3=>?_) (fun c3=>?_)
  ·refine z8 Z Z c3<|z8 Z Z c3<|aM Z c3 Z<|ad Z<|z6 ?_
   exact ⟨_,mB,aT,aJ,by simp_all<;>omega⟩
  ·refine za Z Z c3<|ab jg jf Z Z<|za Z Z c3<|zg (di _) Z<|aD Z c3 Z<|ad Z<|z6 ?_
   exact ⟨_,mB,aT,aJ,by simp_all<;>omega⟩
 ·rintro u hu
  subst hu
  refine zp Z (fun cn=>?_) (fun cn=>?_)
  ·refine ae<|zg (fD) Z<|zf jf Z Z Z Z Z Z .head Z<|z6<|zh<|yc Z ⟨_,.head⟩ jg jf Z ?_
   rw[ff,if_pos cn];try rfl
  ·refine ae<|aa Z<|zg (E0 _) Z<|ad Z<|z6<|zz Z (fun cs=>?_) (fun cs=>?_)
   ·have hs:op=2∨op=3∨op=4:=by simpa using cs
    obtain ⟨k,hk,hop⟩:=vA hs
    rw[(lU hk hop cn).1]
    refine ae<|aa Z<|ab jg jf Z Z<|ab jg jf Z Z<|zg (tR op k hk hop ha hb) Z<|zo (cs:=[.int .i64 0,.int .i64 0,.bool false]) zeroValue226 Z Z<|fun i7=>zf sizeOf226 Z Z Z Z Z Z .head Z<|z6<|ae<|z7 (y0 Zp Z Zr (by decide) Z Z)<|z7 (yd (c:=.bool _) isAgg4 Z ⟨_,.head⟩ Z)<|z7 (yo Z)<|z6<|zz Z (fun cw=>?_) (fun cw=>?_)
    ·refine ae<|z7 (y0 Zp Z jf (by decide) Z Z)<|z7 (yf (l:=[_,_]) jg jf Z ⟨_,.head⟩ Z Z)<|zf jf Z Z Z Z Z Z .t1 Z<|z6<|zh<|yc Z ⟨_,.t1⟩ jg jf Z ?_
     rw[lM,if_neg (by decide),if_neg (by simpa using cw)];try rfl
    ·refine zi<|ae<|zg (Cs) Z<|zf jf Z Z Z Z Z Z .t1 Z<|z6<|zh<|yc Z ⟨_,.t1⟩ jg jf Z ?_
     rw[lM,if_neg (by decide),if_pos (by simpa using cw)];try rfl
   ·have hs:¬(op=2∨op=3∨op=4):=by simpa using cs
    rw[ff,if_neg cn,if_neg (by omega),if_neg (by omega),if_neg (by omega)]
    refine ae<|aa Z<|ak Z Z<|ad Z<|z6<|zp Z (fun c5=>?_) (fun c5=>?_)
    ·refine ae<|ab jg jf Z Z<|ab jg jf Z Z<|zg (HA ha) Z<|zf jf Z Z Z Z Z Z .head Z<|z6<|zh<|yc Z ⟨_,.head⟩ jg jf Z ?_
     rw[if_pos c5];try rfl
    ·rw[if_neg c5]
     refine ae<|aa Z<|ak Z Z<|ad Z<|z6<|zp Z (fun c6=>?_) (fun c6=>?_)
     ·refine ae<|ab jg jf Z Z<|ab jg jf Z Z<|zg (Gg ha hb) Z<|zf jf Z Z Z Z Z Z .head Z<|z6<|zh<|yc Z ⟨_,.head⟩ jg jf Z ?_
      rw[if_pos c6];try rfl
     ·refine zi<|ae<|zg (Cs) Z<|zf jf Z Z Z Z Z Z .head Z<|z6<|zh<|yc Z ⟨_,.head⟩ jg jf Z ?_
      rw[if_neg c6];try rfl
theorem HB (op:Int) {a b:aA} (ha:bb a) (hb:bb b):aF prog E 158 [.int .i64 op,.agg (bk a),.agg (bk b)] (.agg (bk (oP op a b))):=by
 refine zk func158 Z (by decide) Z<|ae<|zy (cs:=_) Z Z Z<|zy (cs:=_) Z Z Z<|zo (cs:=[.int .i64 0,.int .i64 0]) jk Z Z<|fun i6=>z6<|ze<|ze<|ym (γ:=Bool) [0,4,5,6] (fun u=>[(17,.bool u)]) (fun u=>[(i6,.cells 36 [.int .i64 0,.int .i64 0])]) (fun u=>u=decide ((a.2<a.1∨b.2<b.1)∨¬(op=2∨op=3∨op=4))) ?_ (fun _ _ h=>h) ?_
 ·refine bD<|ab jg jf Z Z<|zg (di _) Z<|ay Z<|zx (s:=9) Z (fun c4=>?_) (fun c4=>?_)
  ·refine z8 Z Z c4<|z8 Z Z c4<|aM Z c4 Z<|ay Z<|z8 Z Z Z<|z8 Z Z Z<|z8 Z Z Z<|aM Z Z Z<|z6 ?_
   exact ⟨_,mB,aT,aJ,by simp_all<;>omega⟩
  ·refine za Z Z c4<|ab jg jf Z Z<|za Z Z c4<|zg (di _) Z<|aD Z c4 Z<|ay Z<|zx (s:=13) Z (fun c5=>?_) (fun c5=>?_)
   ·refine z8 Z Z c5<|z8 Z Z c5<|z8 Z Z c5<|aM Z c5 Z<|z6 ?_
    exact ⟨_,mB,aT,aJ,by simp_all<;>omega⟩
   ·refine za Z Z c5<|aa Z<|za Z Z c5<|zg (E0 _) Z<|za Z Z c5<|z7 (yo Z)<|aD Z c5 Z<|z6 ?_
    exact ⟨_,mB,aT,aJ,by simp_all<;>omega⟩
 ·rintro u hu
  subst hu
  refine zp Z (fun cn=>?_) (fun cn=>?_)
  ·refine ae<|aa Z<|ab jg jf Z Z<|ab jg jf Z Z<|zg (vC op ha hb) Z<|zf jf Z Z Z Z Z Z .head Z<|z6<|zh<|yc Z ⟨_,.head⟩ jg jf Z ?_
   rw[vB cn];try rfl
  ·obtain ⟨k,hk,hop⟩:=vA (Classical.byContradiction fun h=>cn (.inr h))
   have hn:¬(a.2<a.1∨b.2<b.1):=fun h=>cn (.inl h)
   rw[(lU hk hop hn).2]
   refine zi<|ae<|aa Z<|ab jg jf Z Z<|ab jg jf Z Z<|zg (tR op k hk hop ha hb) Z<|z7 (Gv.fieldA (l:=[_,_]) Zp Z jg jf Z Z)<|zf jf Z Z Z Z Z Z .head Z<|z6<|zh<|yc Z ⟨_,.head⟩ jg jf Z ?_
   rw[lM,if_pos rfl];try rfl
end
section
open Go.Proofs.Tryz
open Go.Proofs
variable {E:World}
set_option maxRecDepth 20000
theorem Gh (t:Int) (a b:aA):aF prog E 93 [.int .i64 t,.agg (bk a),.agg (bk b)] (.agg (bk (jZ (dE t) a b))):=by
 obtain ⟨tt,htt⟩:∃tt,dE t=tt:=⟨_,rfl⟩
 obtain ⟨j,hj⟩:∃j,aI a b=j:=⟨_,rfl⟩
 have hw:jZ (dE t) a b=if a.2<a.1 then j else (if j.1<a.1∧tt.1≤tt.2 then b5 j.1 tt.1 else j.1,if a.2<j.2∧tt.1≤tt.2 then bK j.2 tt.2 else j.2):=by subst htt hj;rfl
 rw[hw]
 have hJ:=wX (E:=E) a b
 rw[hj] at hJ
 have hT:=wW (E:=E) t
 rw[htt] at hT
 refine zk func93 Z (by decide) Z<|ae<|zy (cs:=_) Z Z Z<|zy (cs:=_) Z Z Z<|zo (cs:=[.int .i64 0,.int .i64 0]) jk Z Z<|fun i6=>z6<|ae<|ab jg jf Z Z<|ab jg jf Z Z<|zg (hJ) Z<|aa Z<|zg (hT) Z<|zo (cs:=[.int .i64 0,.int .i64 0]) jk Z Z<|fun i7=>zo (cs:=[.int .i64 0,.int .i64 0]) jk Z Z<|fun i8=>zf jf Z Z Z Z Z Z .t1 Z<|zf jf Z Z Z Z Z Z .head Z<|z6<|yh (yk (t:=8) Z .head)<|ze<|ae<|ab jg jf Z Z<|zg (di _) Z<|z6<|zp Z (fun ce=>?_) (fun ce=>?_)
 ·refine ae<|z7 (q0 jg jf Z ⟨_,.head⟩ Z)<|zf jf Z Z Z Z Z Z .t1 Z<|z6<|zh<|yc Z ⟨_,.t1⟩ jg jf Z ?_
  rw[if_pos ce];try rfl
 ·rw[if_neg ce]
  refine zi<|ze<|ze<|ym (γ:=Bool) [4,6,7,8] (fun u=>[(26,.bool u)]) (fun u=>[(i7,.cells 36 (bk j)),(i6,.cells 36 [.int .i64 0,.int .i64 0])]) (fun u=>u=decide (j.1<a.1∧tt.1≤tt.2)) ?_ (fun _ _ h=>h) ?_
  ·refine bD<|z7 (y0 ji Z jp (by decide) Z Z)<|z7 (yd (c:=.int _ _) ju Z ⟨_,.head⟩ Z)<|aj ji Z jp Z Z<|aw ju Z<|ax Z Z<|ay Z<|zx (s:=22) Z (fun c1=>?_) (fun c1=>?_)
   ·refine za Z Z c1<|ab jg jf Z Z<|za Z Z c1<|zg (di _) Z<|za Z Z c1<|z7 (yo Z)<|aM Z c1 Z<|z6 ?_
    exact ⟨_,mB,aT,aJ,by have:j.1<a.1:=(by simpa using c1);simp[this];rw[Bool.eq_iff_iff];simp⟩
   ·refine z8 Z Z c1<|z8 Z Z c1<|z8 Z Z c1<|aD Z c1 Z<|z6 ?_
    exact ⟨_,mB,aT,aJ,by have:¬j.1<a.1:=(by simpa using c1);simp[this]⟩
  ·rintro u hu
   subst hu
   refine ym (γ:=Int) [4,6,7,8] (fun x=>[]) (fun x=>[(i7,.cells 36 [.int .i64 x,.int .i64 j.2]),(i6,.cells 36 [.int .i64 0,.int .i64 0])]) (fun x=>x=if j.1<a.1∧tt.1≤tt.2 then b5 j.1 tt.1 else j.1) ?_ (fun _ _ h=>h) ?_
   ·refine zp Z (fun c1=>?_) (fun c1=>?_)
    ·refine bD<|z7 (y0 ji Z jp (by decide) Z Z)<|z7 (yd (c:=.int _ _) ju Z ⟨_,.head⟩ Z)<|aj ji Z jp Z Z<|aw ju Z<|z7 (Gv.minI Z Z)<|z7 (y0 ji Z jp (by decide) Z Z)<|q8 (l:=[_]) (new:=[_,_]) jp Z Z Z Z Z Z .head Z Z<|z6 ?_
     exact ⟨b5 j.1 tt.1,mB,trivial,aJ,by rw[if_pos c1]⟩
    ·refine zi ?_
     exact ⟨j.1,mB,trivial,aJ,by rw[if_neg c1]⟩
   ·rintro x hx
    refine ze<|ze<|ym (γ:=Bool) [6,7,8] (fun u=>[(42,.bool u)]) (fun u=>[(i7,.cells 36 [.int .i64 x,.int .i64 j.2]),(i6,.cells 36 [.int .i64 0,.int .i64 0])]) (fun u=>u=decide (a.2<j.2∧tt.1≤tt.2)) ?_ (fun _ _ h=>h) ?_
    ·refine bD<|z7 (y0 ji Z jp (by decide) Z Z)<|z7 (yd (c:=.int _ _) ju Z ⟨_,.head⟩ Z)<|aj ji Z jp Z Z<|aw ju Z<|z7 (Gv.gtr Z Z)<|ay Z<|zx (s:=38) Z (fun c1=>?_) (fun c1=>?_)
     ·refine za Z Z c1<|ab jg jf Z Z<|za Z Z c1<|zg (di _) Z<|za Z Z c1<|z7 (yo Z)<|aM Z c1 Z<|z6 ?_
      exact ⟨_,bX,aT,aJ,by have:a.2<j.2:=(by simpa using c1);simp[this];rw[Bool.eq_iff_iff];simp⟩
     ·refine z8 Z Z c1<|z8 Z Z c1<|z8 Z Z c1<|aD Z c1 Z<|z6 ?_
      exact ⟨_,bX,aT,aJ,by have:¬a.2<j.2:=(by simpa using c1);simp[this]⟩
    ·rintro u hu
     subst hu
     rw[←hx]
     refine zp Z (fun c1=>?_) (fun c1=>?_)
     ·refine bD<|z7 (y0 ji Z jp (by decide) Z Z)<|z7 (yd (c:=.int _ _) ju Z ⟨_,.head⟩ Z)<|aj ji Z jp Z Z<|aw ju Z<|z7 (Gv.maxI Z Z)<|z7 (y0 ji Z jp (by decide) Z Z)<|q8 (l:=[_]) (new:=[_,_]) jp Z Z Z Z Z Z .head Z Z<|z6<|ae<|z7 (q0 jg jf Z ⟨_,.head⟩ Z)<|zf jf Z Z Z Z Z Z .t1 Z<|z6<|zh<|yc Z ⟨_,.t1⟩ jg jf Z ?_
      rw[if_pos c1];try rfl
     ·refine zi<|ae<|z7 (q0 jg jf Z ⟨_,.head⟩ Z)<|zf jf Z Z Z Z Z Z .t1 Z<|z6<|zh<|yc Z ⟨_,.t1⟩ jg jf Z ?_
      rw[if_neg c1];try rfl
def tS (op:Int) (a b:aA):Bool:=if op=7 then decide (a.1=a.2)&&decide (a=b) else if op=8 then decide (a.2<b.1) else if op=9 then decide (a.2≤b.1) else false
def tT (op:Int) (a b:aA):Bool:=if op=7 then decide ((aR a b).2<(aR a b).1) else if op=8 then decide (b.2≤a.1) else if op=9 then decide (b.2<a.1) else false
theorem CQ (op:Int) (a b:aA):gU op a b=if a.2<a.1∨b.2<b.1 then bw else yV (tS op a b) (tT op a b):=by
 unfold gU tS tT
 by_cases h:a.2<a.1∨b.2<b.1
 ·rw[if_pos h,if_pos h]
 ·rw[if_neg h,if_neg h]
  by_cases h7:op=7
  ·rw[if_pos h7,if_pos h7,if_pos h7]
  ·rw[if_neg h7,if_neg h7,if_neg h7]
   by_cases h8:op=8
   ·rw[if_pos h8,if_pos h8,if_pos h8]
   ·rw[if_neg h8,if_neg h8,if_neg h8]
    by_cases h9:op=9
    ·rw[if_pos h9,if_pos h9,if_pos h9]
    ·rw[if_neg h9,if_neg h9,if_neg h9];rfl
theorem CR (a b:aA):decide (a.1=b.1∧a.2=b.2)=decide (a=b):=decide_eq_decide.2 ⟨fun h=>Prod.ext h.1 h.2,fun h=>by rw[h];exact ⟨rfl,rfl⟩⟩
theorem Gi (op:Int) (a b:aA):aF prog E 143 [.int .i64 op,.agg (bk a),.agg (bk b)] (.agg (bk (gU op a b))):=by
 rw[CQ]
 refine zk func143 Z (by decide) Z<|ae<|zy (cs:=_) Z Z Z<|zy (cs:=_) Z Z Z<|zo (cs:=[.int .i64 0,.int .i64 0]) jk Z Z<|fun i6=>z6<|ae<|ad Z<|ad Z<|z6<|ze<|ae<|aa Z<|z6<|ym (γ:=Bool × Bool) [4,5,6] (fun g=>[(8,.bool g.1),(7,.bool g.2)]) (fun g=>[(i6,.cells 36 [.int .i64 0,.int .i64 0])]) (fun g=>g.1=tS op a b∧g.2=tT op a b) ?_ (fun _ _ h=>h) ?_
 ·refine zj<|ae<|ak Z Z<|ad Z<|z6<|zp Z (fun c7=>?_) (fun c7=>?_)
  ·refine ae<|aj ji Z jp Z Z<|aw ju Z<|aj ji Z jp Z Z<|aw ju Z<|ak Z Z<|ay Z<|zx (s:=17) Z (fun c=>?_) (fun c=>?_)
   ·refine za Z Z c<|ab jg jf Z Z<|za Z Z c<|ab jg jf Z Z<|za Z Z c<|z7 (Gv.eqlP (xs:=[.int _ _,.int _ _]) (ys:=[.int _ _,.int _ _]) (by kernel_rfl) Z Z (fun w=>eL _ _ _ _ w))<|aM Z c Z<|ad Z<|z6<|bD<|ab jg jf Z Z<|ab jg jf Z Z<|zg (lm _ _) Z<|zg (di _) Z<|ad Z<|z6 ?_
    exact ⟨(decide (a.1=b.1∧a.2=b.2),decide ((aR a b).2<(aR a b).1)),bX,cU,aJ,by dsimp only;exact ⟨by rw[tS,if_pos c7,CR,show decide (a.1=a.2)=true from c];rfl,by rw[tT,if_pos c7]⟩⟩
   ·refine z8 Z Z c<|z8 Z Z c<|z8 Z Z c<|aD Z c Z<|ad Z<|z6<|bD<|ab jg jf Z Z<|ab jg jf Z Z<|zg (lm _ _) Z<|zg (di _) Z<|ad Z<|z6 ?_
    exact ⟨(false,decide ((aR a b).2<(aR a b).1)),bX,cU,aJ,by dsimp only;exact ⟨by rw[tS,if_pos c7,show decide (a.1=a.2)=false from c];rfl,by rw[tT,if_pos c7]⟩⟩
  ·refine ae<|ak Z Z<|ad Z<|z6<|zp Z (fun c8=>?_) (fun c8=>?_)
   ·refine zw (fun j=>false) (by kernel_rfl) Z (zn (.rest _))<|ao 0 Z (eh ji Z jp Z Z)<|ao 1 Z (gy ju Z)<|ao 2 Z (eh ji Z jp Z Z)<|ao 3 Z (gy ju Z)<|ao 4 Z (Gv.lss Z Z)<|ao 5 Z (eh ji Z jp Z Z)<|ao 6 Z (gy ju Z)<|ao 7 Z (eh ji Z jp Z Z)<|ao 8 Z (gy ju Z)<|ao 9 Z (qa Z Z)<|ao 10 Z (sA Z)<|ao 11 Z (sA Z)<|bO ?_
    exact ⟨(decide (a.2<b.1),decide (b.2≤a.1)),bX,cU,aJ,by dsimp only;exact ⟨by rw[tS,if_neg c7,if_pos c8],by rw[tT,if_neg c7,if_pos c8]⟩⟩
   ·refine ae<|ak Z Z<|ad Z<|z6<|zp Z (fun c9=>?_) (fun c9=>?_)
    ·refine zw (fun j=>false) (by kernel_rfl) Z (zn (.rest _))<|ao 0 Z (eh ji Z jp Z Z)<|ao 1 Z (gy ju Z)<|ao 2 Z (eh ji Z jp Z Z)<|ao 3 Z (gy ju Z)<|ao 4 Z (Gv.leq Z Z)<|ao 5 Z (eh ji Z jp Z Z)<|ao 6 Z (gy ju Z)<|ao 7 Z (eh ji Z jp Z Z)<|ao 8 Z (gy ju Z)<|ao 9 Z (Gv.gtr Z Z)<|ao 10 Z (sA Z)<|ao 11 Z (sA Z)<|bO ?_
     exact ⟨(decide (a.2≤b.1),decide (b.2<a.1)),bX,cU,aJ,by dsimp only;exact ⟨by rw[tS,if_neg c7,if_neg c8,if_pos c9],by rw[tT,if_neg c7,if_neg c8,if_pos c9]⟩⟩
    ·refine zi ?_
     exact ⟨(false,false),bX,cU,aJ,by dsimp only;exact ⟨by rw[tS,if_neg c7,if_neg c8,if_neg c9],by rw[tT,if_neg c7,if_neg c8,if_neg c9]⟩⟩
 ·rintro ⟨al,ne⟩ ⟨h1,h2⟩
  dsimp only at h1 h2
  rw[←h1,←h2]
  refine ze<|zj<|ze<|ym (γ:=Bool) [6,7,8] (fun u=>[(50,.bool u)]) (fun u=>[(i6,.cells 36 [.int .i64 0,.int .i64 0])]) (fun u=>u=decide (a.2<a.1∨b.2<b.1)) ?_ (fun _ _ h=>h) ?_
  ·refine bD<|ab jg jf Z Z<|zg (di _) Z<|ay Z<|zx (s:=53) Z (fun c1=>?_) (fun c1=>?_)
   ·refine z8 Z Z c1<|z8 Z Z c1<|aM Z c1 Z<|ad Z<|z6 ?_
    exact ⟨_,bX,aT,aJ,by simp_all<;>omega⟩
   ·refine za Z Z c1<|ab jg jf Z Z<|za Z Z c1<|zg (di _) Z<|aD Z c1 Z<|ad Z<|z6 ?_
    exact ⟨_,bX,aT,aJ,by simp_all<;>omega⟩
  ·rintro u hu
   subst hu
   refine zp Z (fun cn=>?_) (fun cn=>?_)
   ·refine ae<|zg (fD) Z<|zf jf Z Z Z Z Z Z .head Z<|z6<|zh<|yc Z ⟨_,.head⟩ jg jf Z ?_
    rw[if_pos cn];try rfl
   ·rw[if_neg cn]
    refine ae<|ay Z<|ad Z<|z6<|zz Z (fun c1=>?_) (fun c1=>?_)
    ·refine ae<|zg (EZ _) Z<|zf jf Z Z Z Z Z Z .head Z<|z6<|zh<|yc Z ⟨_,.head⟩ jg jf Z ?_
     rw[show al=true from c1];try rfl
    ·refine ae<|ay Z<|ad Z<|z6<|zz Z (fun c2=>?_) (fun c2=>?_)
     ·refine ae<|zg (EZ _) Z<|zf jf Z Z Z Z Z Z .head Z<|z6<|zh<|yc Z ⟨_,.head⟩ jg jf Z ?_
      rw[show al=false from c1,show ne=true from c2];try rfl
     ·refine zi<|ae<|z7 (zt (cps:=[(0,[_]),(1,[_])]) (rs:=[_,_]) iI Z Z Z)<|zf jf Z Z Z Z Z Z .head Z<|z6<|zh<|yc Z ⟨_,.head⟩ jg jf Z ?_
      rw[show al=false from c1,show ne=false from c2];try rfl
theorem HC (num:Int) {a b:aA} (hb:bb b):aF prog E 144 [.int .i64 num,.agg (bk a),.agg (bk b)] (.agg (bk (uX num a b))):=by
 have hb1:=hb.1;have hb2:=hb.2
 unfold aK at hb1 hb2
 have hm:dy=-9223372036854775808:=rfl
 have hM:dz=9223372036854775807:=rfl
 refine zk func144 Z (by decide) Z<|ae<|zy (cs:=_) Z Z Z<|zy (cs:=_) Z Z Z<|zo (cs:=[.int .i64 0,.int .i64 0]) jk Z Z<|fun i6=>z6<|ze<|ze<|ym (γ:=Bool) [0,4,5,6] (fun u=>[(12,.bool u)]) (fun u=>[(i6,.cells 36 [.int .i64 0,.int .i64 0])]) (fun u=>u=decide (a.2<a.1∨b.2<b.1)) ?_ (fun _ _ h=>h) ?_
 ·refine bD<|ab jg jf Z Z<|zg (di _) Z<|ay Z<|zx (s:=9) Z (fun c2=>?_) (fun c2=>?_)
  ·refine z8 Z Z c2<|z8 Z Z c2<|aM Z c2 Z<|z6 ?_
   exact ⟨_,mB,aT,aJ,by simp_all<;>omega⟩
  ·refine za Z Z c2<|ab jg jf Z Z<|za Z Z c2<|zg (di _) Z<|aD Z c2 Z<|z6 ?_
   exact ⟨_,mB,aT,aJ,by simp_all<;>omega⟩
 ·rintro u hu
  subst hu
  refine zp Z (fun cn=>?_) (fun cn=>?_)
  ·refine ae<|zg (fD) Z<|zf jf Z Z Z Z Z Z .head Z<|z6<|zh<|yc Z ⟨_,.head⟩ jg jf Z ?_
   rw[uX,if_pos cn];try rfl
  ·rw[uX,if_neg cn]
   refine zi<|ze<|ae<|aa Z<|z6<|zj<|ae<|ak Z Z<|ad Z<|z6<|zp Z (fun c0=>?_) (fun c0=>?_)
   ·refine ze<|ae<|aj ji Z jp Z Z<|aw ju Z<|ak Z Z<|z6<|zp Z (fun cm=>?_) (fun cm=>?_)
    ·refine ae<|zg (fD) Z<|zf jf Z Z Z Z Z Z .head Z<|z6<|zh<|yc Z ⟨_,.head⟩ jg jf Z ?_
     rw[if_pos c0,if_pos (show b.2=dy from cm)];try rfl
    ·refine zi<|ae<|aj ji Z jp Z Z<|aw ju Z<|aj ji Z jp Z Z<|aw ju Z<|aj ji Z jp Z Z<|aw ju Z<|z7 (Gv.sub Z Z (by unfold pq;omega))<|z7 (Gv.minI Z Z)<|zg (pW _ _) Z<|zf jf Z Z Z Z Z Z .head Z<|z6<|zh<|yc Z ⟨_,.head⟩ jg jf Z ?_
     rw[if_pos c0,if_neg (show ¬b.2=dy from cm)];try rfl
   ·rw[if_neg c0]
    refine ae<|ak Z Z<|ad Z<|z6<|zp Z (fun c1=>?_) (fun c1=>?_)
    ·refine ae<|aj ji Z jp Z Z<|aw ju Z<|aj ji Z jp Z Z<|aw ju Z<|aj ji Z jp Z Z<|aw ju Z<|z7 (Gv.minI Z Z)<|zg (pW _ _) Z<|zf jf Z Z Z Z Z Z .head Z<|z6<|zh<|yc Z ⟨_,.head⟩ jg jf Z ?_
     rw[if_pos c1];try rfl
    ·rw[if_neg c1]
     refine ae<|ak Z Z<|ad Z<|z6<|zp Z (fun c2=>?_) (fun c2=>?_)
     ·refine ae<|ab jg jf Z Z<|ab jg jf Z Z<|zg (lm _ _) Z<|zf jf Z Z Z Z Z Z .head Z<|z6<|zh<|yc Z ⟨_,.head⟩ jg jf Z ?_
      rw[if_pos c2];try rfl
     ·rw[if_neg c2]
      refine ae<|ak Z Z<|ad Z<|z6<|zp Z (fun c3=>?_) (fun c3=>?_)
      ·refine ae<|aj ji Z jp Z Z<|aw ju Z<|aj ji Z jp Z Z<|aw ju Z<|z7 (Gv.maxI Z Z)<|aj ji Z jp Z Z<|aw ju Z<|zg (pW _ _) Z<|zf jf Z Z Z Z Z Z .head Z<|z6<|zh<|yc Z ⟨_,.head⟩ jg jf Z ?_
       rw[if_pos c3];try rfl
      ·rw[if_neg c3]
       refine ae<|ak Z Z<|ad Z<|z6<|zp Z (fun c4=>?_) (fun c4=>?_)
       ·refine ze<|ae<|aj ji Z jp Z Z<|aw ju Z<|ak Z Z<|z6<|zp Z (fun cm=>?_) (fun cm=>?_)
        ·refine ae<|zg (fD) Z<|zf jf Z Z Z Z Z Z .head Z<|z6<|zh<|yc Z ⟨_,.head⟩ jg jf Z ?_
         rw[if_pos c4,if_pos (show b.1=dz from cm)];try rfl
        ·refine zi<|ae<|aj ji Z jp Z Z<|aw ju Z<|aj ji Z jp Z Z<|aw ju Z<|aQ Z Z<|z7 (Gv.maxI Z Z)<|aj ji Z jp Z Z<|aw ju Z<|zg (pW _ _) Z<|zf jf Z Z Z Z Z Z .head Z<|z6<|zh<|yc Z ⟨_,.head⟩ jg jf Z ?_
         rw[if_pos c4,if_neg (show ¬b.1=dz from cm)];try rfl
       ·refine zi<|ae<|ab jg jf Z Z<|zf jf Z Z Z Z Z Z .head Z<|z6<|zh<|yc Z ⟨_,.head⟩ jg jf Z ?_
        rw[if_neg c4];try rfl
end
section
open Go.Proofs.Tryz
open Go.Proofs Go.Lib Go.Shelf Go.RowKit
variable {E:World}
set_option maxRecDepth 20000
theorem E4 {rs:List aA} {i:Nat} (h:i<rs.length):rs[i]?=some (ra rs i):=by unfold ra;rw[qj h];rfl
def Gj (rs:List aA):Prop:=∀r∈rs,bb r∧r.1≤r.2
theorem Gj.at {rs:List aA} (h:Gj rs) {i:Nat} (hi:i<rs.length):bb (ra rs i)∧(ra rs i).1≤(ra rs i).2:=by
 have:=E4 hi
 exact h _ (qt this)
end
section
open Go.Proofs.Tryz
open Go.Proofs Go.Lib Go.Shelf Go.RowKit
variable {E:World}
set_option maxRecDepth 20000
theorem vD {l:List aA} {a:Int} (h:a.toNat<l.length):l[a.toNat]?=some (lv l a):=by unfold lv;rw[qj h];rfl
theorem fw {f:ac} {v:Int} (h:cA f v=true):0≤v∧v<f.vars.length:=by simpa [cA] using h
theorem Gk {f:ac} (hS:cf f) {a:Int} (h:cA f a=true):∃x,f.vars[a.toNat]?=some x∧x.ty=sG f a∧0≤x.ty∧x.ty≤2:=by
 obtain ⟨h0,h1⟩:=fw h
 have hl:a.toNat<f.vars.length:=by omega
 have h2:=hS.2.2.1 _ hl
 refine ⟨f.vars[a.toNat],qj hl,?_,h2.2.1,h2.2.2.1⟩
 unfold sG;rw[qj hl];rfl
theorem Aj {f:ac} {l:List aA} {x:bg} {m:Nat} (h:m<x.args.length):(cC f l x).take (m+1)=(cC f l x).take m++[j4 f l x.args[m]]:=by
 unfold cC
 rw[qk (by rw[qq];exact h),List.getElem_map]
theorem Left.d1 {x:Nat × bm} {O:OL}:Left (x::O) O:=⟨_,.drop (.refl _),rfl⟩
theorem Left.d2 {x y:Nat × bm} {O:OL}:Left (x::y::O) O:=⟨_,.drop (.drop (.refl _)),rfl⟩
theorem aU.same {P:Program} {E:World} {f:FuncId} {ars:List AV} {O:OL} {x:AV} (h:aU P E f ars O fun y O'=>y=x∧Left O' O):aU P E f ars O fun y O'=>y=x∧O'=O:=
 (aU.exact (γ:=Unit) (x:=fun _=>x) (M:=fun _=>O) (p:=fun _=>True) (h.mono fun _ _ h=>⟨(),h.1,h.2,trivial⟩)).mono fun _ _ ⟨_,h1,h2,_⟩=>⟨h1,h2⟩
end
end Go.Proofs.YthphijnnbfjikaaGreatDoor
