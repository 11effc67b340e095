/- What an operation that only gives comes to: cuts, what is built, and all of them by their sign. No conditions. -/
import Derived.Test.YtbanfokidalbaaaGreatDoorJu
import Derived.Test.YtbanfokidalbaaaGreatDoorJv
import Derived.Test.YtbanfokidalbaaaGreatDoorJd
set_option linter.unusedVariables false
set_option linter.unusedSimpArgs false
set_option linter.unusedSectionVars false
namespace Go.Proofs.YtbanfokidalbaaaGreatDoor
section
open Go.Proofs.Tryz
open Go.Proofs Go.Lib Go.Shelf Go.RowKit
variable {E:World}
set_option maxRecDepth 20000
set_option maxHeartbeats 16000000 in
theorem jZ (f:ad) (hF:f6 f) (h:(aR f&&bG f)=true) (hN:∀b∈f.blocks,∀x∈b.insts,aP x.num) (l:List be) (hol:∀r∈l,cY r) (hll:l.length=f.vars.length) (up:Bool) (s:Int) (hs:0≤s∧s≤f.vars.length) (K:Nat) (hK:oE (eJ f l up s) K) (hKb:K≤4611686018427387904) :
  aJ prog E 10 [.agg (bL f),.fro 2 (l.map bg),.int .i64 (JT up),.int .i64 s] (.fro 2 ((n6 (eJ f l up s) K).map bg)):=by
 have hf:=hF.small
 have hvn:=hf.1
 have hn:=hf.2.2.1
 have hE:=bT (jW h).1
 have hsn:((s.toNat:Nat):Int)=s:=wa hs.1
 have hseq:=ll (S:=eJ f l up s) hs.1 hs.2
 have hend:iU (eJ f l up s) (n6 (eJ f l up s) K):=ky hs.1 (hseq (K+1)) 2
 have hel:(n6 (eJ f l up s) K).length=f.vars.length+1:=hend.len
 have hrep:(List.replicate (f.vars.length+1) ((0,0):b7)).length=f.vars.length+1:=List.length_replicate
 have hru:=fun A hA i T v hv hvs=>rX (E:=E) f hF h hN l hol hll up s hs A hA i T v hv hvs
 refine zo func10 Z (by decide) Z<|ah<|yb (cs:=_) Z Z Z<|bV Z<|z6<|ah<|ab jm jh Z Z<|ze (l9 f hE hn) Z<|za (iw Z)<|z6<|ah<|ab jm jh Z Z<|aU Z<|ze (wU f hF hE l hol hll) Z<|za (m6 Z)<|za (yy (v:=.fro _ _) Z Z)<|za (yy (v:=.fro _ _) Z Z)<|za (iw Z)<|za (iw Z)<|z6<|zc<|ah<|aa Z<|aw Z Z<|z6<|yf (γ:=List dI) [1,2,3,4,9] (fun g=>[(10,.fro 3 (g.map gg))]) (fun g=>[]) (fun g=>g=bX f l up) ?_ (fun _ _ h=>h) ?_
 ·refine zp Z (fun cg=>?_) (fun cg=>?_)
  ·refine aM<|aU Z<|za (iw Z)<|z6 ?_
   exact ⟨(bX f l false),iT,aG,aC,by cases up;rfl;exact absurd (show (1:Int)<0 from cg) (by decide)⟩
  ·refine zd ?_
   exact ⟨(bX f l true),iT,aG,aC,by cases up;exact absurd (show (-1:Int)<0 by decide) cg;rfl⟩
 ·rintro es hes
  subst hes
  refine zc<|yf (γ:=Nat) [1,2,3,4,9,10] (fun z=>[(12,.own z (f.vars.length+1))]) (fun z=>[(z,.grow 2 81 (lC (List.replicate (f.vars.length+1) ((0,0):be))))]) (fun z=>True) ?_ (fun _ _ h=>h) ?_
  ·refine aM<|ae je Z Zg Z Z<|aI Zp Z<|ak js Z<|aA Z Z<|az.makeZ (m:=f.vars.length+1) [.int .i64 0,.int .i64 0] Zr type81 Z Z Z (by decide) (by decide) Z Z (by simp) (by simp) (by show (16:Int)*_≤_;omega) (by omega)<|fun i36=>bM Z<|z6 ?_
   exact ⟨i36,pt,aG,⟨_,(.refl _),(by rw[←GO];rfl)⟩,trivial⟩
  ·rintro z _
   refine ah<|bw Z<|aa Z<|za (zz (cps:=[(0,[_])]) (rs:=[_,.int .i64 0]) rU Z Z Z)<|za (qk (j:=s.toNat) Zr Z0 Z Z (by omega) ⟨_,.head⟩ hrep (by omega))<|az.storeR (r:=(1,0)) (j:=s.toNat) Z0 Z Z .head (by rw[hrep];omega)<|z6<|ah<|ay Z<|z6<|zc<|ah<|ac Z<|z6<|zh<|ya (γ:=Nat × Bool) [1,2,3,4,9,10,12] (fun g=>[(13,.int .i64 ((g.1:Int)+1)),(14,.bool g.2)]) (fun g=>[(z,.grow 2 81 (lC (fw (eJ f l up s) g.1)))]) (fun g=>g.1≤K+1∧(g.2=true↔g.1≤K)) (fun g=>K+1 - g.1) (0,true) di aC (⟨qt _,by simp⟩) ?_
   rintro ⟨m,ag⟩ ⟨hm,hag⟩
   try dsimp only at *
   refine zc<|ah<|ai Z<|z6<|zt Z (fun ca=>?_) (fun ca=>?_)
   ·have hmK:m≤K:=hag.1 ca
    have hA0:=hseq m
    obtain ⟨w4,hw4⟩:∃w4,decide (4≤m+1)=w4:=⟨_,rfl⟩
    have hrm:n5 w4 (eJ f l up s) (fw (eJ f l up s) m,false)=(fw (eJ f l up s) (m+1),l3 (eJ f l up s) m):=by rw[←hw4];rfl
    have hfl:l3 (eJ f l up s) m=true↔m+1≤K:=by
     constructor
     ·intro hh
      rcases (by omega:m=K∨m<K) with e|e
      ·rw[e,hK.still] at hh;cases hh
      ·omega
     ·intro hh;exact hK.moves m (by omega)
    refine zd<|zc<|zh<|ah<|ac Z<|z6<|ah<|bw Z<|za (Gv.lenO Zr Z)<|aa Z<|z6<|zh<|ya (γ:=Nat × List b7 × Bool) [1,2,3,4,9,10,12,13,45] (fun g=>[(46,.int .i64 g.1),(14,.bool g.2.2)]) (fun g=>[(z,.grow 2 81 (lC g.2.1))]) (fun g=>g.1≤f.vars.length+1∧g.2=ef w4 (eJ f l up s) (List.range g.1) (fw (eJ f l up s) m,false)∧iU (eJ f l up s) g.2.1) (fun g=>f.vars.length+1 - g.1) (0,fw (eJ f l up s) m,false) di aC (⟨qt _,Z,hA0⟩) ?_
    rintro ⟨k,A,c⟩ ⟨hk,hst,hA⟩
    try dsimp only at *
    refine ah<|aw Z Z<|z6<|zc<|zp Z (fun ck=>?_) (fun ck=>?_)
    ·have hk2:k<f.vars.length+1:=by simp at ck;omega
     have hlen:A.length=f.vars.length+1:=hA.len
     have hgk:=jC (A:=A) (v:=(k:Int)) (by omega) (by omega)
     have hsn2:=oK w4 (eJ f l up s) k (fw (eJ f l up s) m,false)
     rw[←hst] at hsn2
     have hok:=xd (w:=w4) (c:=false) hs.1 hA0 (k:=k+1) hk2
     rw[hsn2] at hok
     obtain ⟨r,hr⟩:∃r,bW (eJ f l up s) A k=r:=⟨_,rfl⟩
     refine zd<|zc<|zh<|ah<|aa Z<|ay Z<|z6<|zc<|ah<|aa Z<|aa Z<|aj Z Z<|z6<|zp Z (fun cks=>?_) (fun cks=>?_)
     ·rw[u6 (fun hx:fZ (eJ f l up s) A k=>hx.1 cks)] at hsn2
      refine y9<|aM<|aA Z Z<|aa Z<|z6 ?_
      exact ⟨(k+1,A,c),nK,di,aC,⟨hk2,hsn2.symm,hA⟩,by dsimp only;omega⟩
     ·have hrk:=hru A hA z 81 k (by omega) cks
      rw[hr] at hrk
      refine zd<|ah<|ab jm jh Z Z<|aU Z<|aU Z<|aU Z<|aa Z<|aa Z<|bw Z<|aa Z<|zu Z (zn (.l (.rest _))) (hrk) ?_
      rintro r60 O60 ⟨rfl,rfl⟩
      refine zy (cs:=[.int .i64 0,.int .i64 0]) X1 Z Z<|fun i16=>zq Z0 Z Z Z Z Z Z .head Z<|z6<|zc<|zc<|y7 (fun j=>false) (by kernel_rfl) Z (zn (.r (.r (.rest _))))<|au 0 Z (cG Z)<|au 1 Z (q8 Yc Z0 Z ⟨_,.head⟩ Z)<|au 2 Z (Fb Z)<|au 3 Z (cG Z)<|au 4 Z (qk (j:=k) Zr Z0 Z Z Z ⟨_,.t1⟩ hlen (by omega))<|au 5 Z (Gv.loadR (j:=k) Yc Z0 Z ⟨_,.t1⟩ hgk)<|aV 6 Z<|ze (jE up r (dF A k)) Z<|z6<|au 7 Z (Gv.not Z)<|bY<|zt Z (fun cf=>?_) (fun cf=>?_)
      ·have cf:bU up r (dF A k)=false:=by simpa using cf
       rw[u6 (fun hx:fZ (eJ f l up s) A k=>by have h3:bU up (bW (eJ f l up s) A k) (dF A k)=true:=hx.2;rw[hr,cf] at h3;cases h3)] at hsn2
       refine yg (qi .head)<|y9<|aM<|aA Z Z<|aa Z<|z6 ?_
       exact ⟨(k+1,A,c),nK,di,aC,⟨hk2,hsn2.symm,hA⟩,by dsimp only;omega⟩
      ·have cf:bU up r (dF A k)=true:=by simpa using cf
       have hfi:fZ (eJ f l up s) A k:=⟨cks,by rw[hr];exact cf⟩
       rw[xc hfi] at hsn2 hok
       obtain ⟨q,hq⟩:∃q,o5 w4 (eJ f l up s) A k=q:=⟨_,rfl⟩
       have hqe:q=if w4=true∧(fL f k).isSome=true∧(dF A k).1=1 then (2,0) else r:=by rw[←hq,←hr];rfl
       rw[hq] at hsn2 hok
       have hqr:¬(w4=true∧(dF A k).1=1∧k<f.vars.length)→q=r:=fun c4=>by
        rw[hqe,if_neg (fun x=>by
         have h6:¬k<f.vars.length:=fun y=>c4 ⟨x.1,x.2.2,y⟩
         have h7:=GI hF (v:=(k:Int)) (by omega)
         rw[h7] at x
         cases x.2.1)]
       refine zd<|zc<|zc<|yf (γ:=Bool) [1,2,3,4,9,10,12,13,15,16,45,46] (fun u=>[(85,.bool u)]) (fun u=>[(i16,.cells 81 (bg r)),(z,.grow 2 81 (lC A))]) (fun u=>u=decide (w4=true∧(dF A k).1=1∧k<f.vars.length)) ?_ (fun _ _ h=>h) ?_
       ·have h4:decide (4≤(m:Int)+1)=w4:=by rw[←hw4];exact decide_eq_decide.2 (by omega)
        refine aM<|aa Z<|za (qa Z Z)<|ai Z<|zm (s:=71) Z (fun c1=>?_) (fun c1=>?_)
        ·refine z8 Z Z c1<|bw Z<|z8 Z Z c1<|aa Z<|z8 Z Z c1<|za (qk (j:=k) Zr Z0 Z Z Z ⟨_,.t1⟩ hlen (by omega))<|z8 Z Z c1<|za (zr Z8 Z ja (by decide) Z Z)<|z8 Z Z c1<|za (Gv.loadR0 (j:=k) jc Z ⟨_,.t1⟩ hgk)<|z8 Z Z c1<|aj Z Z<|ap Z c1 Z<|ai Z<|zm (s:=79) Z (fun c2=>?_) (fun c2=>?_)
         ·refine z8 Z Z c2<|aa Z<|z8 Z Z c2<|ae je Z Zg Z Z<|z8 Z Z c2<|aI Zp Z<|z8 Z Z c2<|ak js Z<|z8 Z Z c2<|aw Z Z<|ap Z c2 Z<|z6 ?_
          exact ⟨_,ec,aG,aC,by clear hru hok hsn2 hst hA0 hrm hfl hqe hrk hag hseq;simp_all<;>omega⟩
         ·refine z7 Z Z c2<|z7 Z Z c2<|z7 Z Z c2<|z7 Z Z c2<|z7 Z Z c2<|aq Z c2 Z<|z6 ?_
          exact ⟨_,ec,aG,aC,by clear hru hok hsn2 hst hA0 hrm hfl hqe hrk hag hseq;simp_all<;>omega⟩
        ·refine z7 Z Z c1<|z7 Z Z c1<|z7 Z Z c1<|z7 Z Z c1<|z7 Z Z c1<|z7 Z Z c1<|aq Z c1 Z<|ai Z<|z7 Z Z Z<|z7 Z Z Z<|z7 Z Z Z<|z7 Z Z Z<|z7 Z Z Z<|aq Z Z Z<|z6 ?_
         exact ⟨_,ec,aG,aC,by clear hru hok hsn2 hst hA0 hrm hfl hqe hrk hag hseq;simp_all<;>omega⟩
       ·rintro u hu
        subst hu
        refine yf (γ:=Unit) [1,2,3,4,9,10,12,13,15,16,45,46] (fun w=>[]) (fun w=>[(i16,.cells 81 (bg q)),(z,.grow 2 81 (lC A))]) (fun w=>True) ?_ (fun _ _ h=>h) ?_
        ·refine zp Z (fun c4=>?_) (fun c4=>?_)
         ·have hph:=mb (E:=E) f hF k c4.2.2
          rcases hpv:fL f k with _|p
          ·rw[oq hpv,rW hpv] at hph
           refine ah<|ab jm jh Z Z<|aa Z<|ze (hph) Z<|za (m6 Z)<|za (yy (v:=.agg _) Z Z)<|za (mq Z Z)<|zy (cs:=[.int .i64 0,.raw (.slice none 0 0),.raw (.slice none 0 0)]) Zb Z Z<|fun i17=>zq jz Z Z Z Z Z Z .head Z<|zf (yd (t:=17) Z .head)<|ay Z<|z6<|ah<|aa Z<|za (qa Z Z)<|z6<|yj Z (by rfl)<|zd ?_
           exact ⟨(),ec,trivial,⟨_,(.refl _),(by rw[hqe,hpv,if_neg (fun x=>by cases x.2.1)])⟩,trivial⟩
          ·obtain ⟨j,bk,hbk,hpm,hpd,hmj,hm2⟩:=jB hpv
           rw[oo hpv,rV hpv,hmj] at hph
           refine ah<|ab jm jh Z Z<|aa Z<|ze (hph) Z<|za (m6 Z)<|za (yy (v:=.agg _) Z Z)<|za (mq Z Z)<|zy (cs:=[.int .i64 0,.raw (.slice none 0 0),.raw (.slice none 0 0)]) Zb Z Z<|fun i17=>zq jz Z Z Z Z Z Z .head Z<|zf (yd (t:=17) Z .head)<|ay Z<|z6<|ah<|aa Z<|za (qa Z Z)<|z6<|yt Z (by simp)<|aM<|za (zz (cps:=[(0,[_])]) (rs:=[_,.int .i64 0]) rU Z Z Z)<|zq Z0 Z Z Z Z Z Z .head Z<|z6 ?_
           exact ⟨(),ec,trivial,⟨_,(.refl _),(by rw[hqe,hpv,if_pos ⟨c4.1,rfl,c4.2.1⟩];rfl)⟩,trivial⟩
         ·refine zd ?_
          exact ⟨(),ec,trivial,⟨_,(.refl _),(by rw[hqr c4])⟩,trivial⟩
        ·rintro _ _
         refine ah<|bw Z<|aa Z<|za (q8 Yc Z0 Z ⟨_,.head⟩ Z)<|za (qk (j:=k) Zr Z0 Z Z Z ⟨_,.t1⟩ hlen (by omega))<|az.storeR (j:=k) Z0 Z Z .t1 (by rw[hlen];exact hk2)<|z6<|aM<|ac Z<|z6<|yg (qi .head)<|aM<|aA Z Z<|aa Z<|z6 ?_
         exact ⟨(k+1,A.set k q,true),nK,di,aC,⟨hk2,hsn2.symm,hok⟩,by dsimp only;omega⟩
    ·have hkn:k=f.vars.length+1:=by simp at ck;omega
     subst hkn
     have hst:(A,c)=(fw (eJ f l up s) (m+1),l3 (eJ f l up s) m):=by rw[←hrm];exact hst
     cases hst
     refine y9<|aM<|aa Z<|aA Z Z<|ay Z<|z6 ?_
     exact ⟨(m+1,l3 (eJ f l up s) m),km,⟨(congrArg (AV.int .i64) (by omega)),rfl,trivial⟩,aC,⟨by omega,hfl⟩,by dsimp only;omega⟩
   ·have hmK:m=K+1:=by
     have:¬m≤K:=fun hx=>by rw[hag.2 hx] at ca;cases ca
     omega
    subst hmK
    refine y9<|zc<|ah<|aa Z<|z6<|zh<|ya (γ:=Nat) [1,2,3,4,9,10,12] (fun q=>[(100,.int .i64 q)]) (fun q=>[(z,.grow 2 81 (lC (uF (eJ f l up s) (fw (eJ f l up s) (K+1)) q)))]) (fun q=>q≤2) (fun q=>2 - q) 0 aG aC (qt _) ?_
    rintro q hq2
    refine ah<|aw Z Z<|z6<|zc<|zp Z (fun cq=>?_) (fun cq=>?_)
    ·have hok0:=ky (S:=eJ f l up s) hs.1 (hseq (K+1)) q
     obtain ⟨L0,hL0⟩:∃L0,uF (eJ f l up s) (fw (eJ f l up s) (K+1)) q=L0:=⟨_,rfl⟩
     have hnx:uF (eJ f l up s) (fw (eJ f l up s) (K+1)) (q+1)=sM (eJ f l up s) (f.vars.length+1) L0:=by rw[←hL0];rfl
     rw[hL0] at hok0 ⊢
     refine zd<|zc<|zh<|ah<|bw Z<|za (Gv.lenO Zr Z)<|aa Z<|z6<|zh<|ya (γ:=Nat) [1,2,3,4,9,10,12,100,103] (fun k=>[(104,.int .i64 k)]) (fun k=>[(z,.grow 2 81 (lC (sM (eJ f l up s) k L0)))]) (fun k=>k≤f.vars.length+1) (fun k=>f.vars.length+1 - k) 0 aG aC (qt _) ?_
     rintro k hk
     refine ah<|aw Z Z<|z6<|zc<|zp Z (fun ck=>?_) (fun ck=>?_)
     ·have hk2:k<f.vars.length+1:=by simp at ck;omega
      have hA:=px (S:=eJ f l up s) hs.1 hok0 k hk
      have hsn2:=n7 (eJ f l up s) k L0
      obtain ⟨A,hAe⟩:∃A,sM (eJ f l up s) k L0=A:=⟨_,rfl⟩
      rw[hAe] at hA hsn2 ⊢
      have hlen:A.length=f.vars.length+1:=hA.len
      have hgk:=jC (A:=A) (v:=(k:Int)) (by omega) (by omega)
      obtain ⟨r,hr⟩:∃r,bW (eJ f l up s) A k=r:=⟨_,rfl⟩
      refine zd<|zc<|zh<|ah<|aa Z<|ay Z<|z6<|zc<|ah<|aa Z<|aa Z<|aj Z Z<|z6<|zp Z (fun cks=>?_) (fun cks=>?_)
      ·rw[AP (fun hx=>hx.1 cks)] at hsn2
       refine y9<|aM<|aA Z Z<|aa Z<|z6 ?_
       exact ⟨k+1,nK,aG,⟨_,(.refl _),(by rw[hsn2]<;>rfl)⟩,hk2,by omega⟩
      ·have hrk:=hru A hA z 81 k (by omega) cks
       rw[hr] at hrk
       refine zd<|ah<|ab jm jh Z Z<|aU Z<|aU Z<|aU Z<|aa Z<|aa Z<|bw Z<|aa Z<|zu Z (zn (.l (.rest _))) (hrk) ?_
       rintro r118 O118 ⟨rfl,rfl⟩
       refine zy (cs:=[.int .i64 0,.int .i64 0]) X1 Z Z<|fun i20=>zq Z0 Z Z Z Z Z Z .head Z<|zf (yd (t:=20) Z .head)<|z6<|zc<|y7 (fun j=>false) (by kernel_rfl) Z (zn (.r (.rest _)))<|au 0 Z (cG Z)<|au 1 Z (Fb Z)<|au 2 Z (cG Z)<|au 3 Z (qk (j:=k) Zr Z0 Z Z Z ⟨_,.head⟩ hlen (by omega))<|au 4 Z (Gv.loadR (j:=k) Yc Z0 Z ⟨_,.head⟩ hgk)<|au 5 Z (yk Yc Z0 Z Z)<|aV 6 Z<|ze (jE up (dF A k) r) Z<|z6<|bY<|zt Z (fun cf=>?_) (fun cf=>?_)
       ·have cf:bU up (dF A k) r=true:=cf
        rw[B3 ⟨cks,by rw[hr];exact cf⟩,hr] at hsn2
        refine aM<|bw Z<|aa Z<|ab Yc Z0 Z Z<|za (qk (j:=k) Zr Z0 Z Z Z ⟨_,.head⟩ hlen (by omega))<|az.storeR (j:=k) Z0 Z Z .head (by rw[hlen];exact hk2)<|z6<|aM<|aA Z Z<|aa Z<|z6 ?_
        exact ⟨k+1,nK,aG,⟨_,(.refl _),(by rw[hsn2];rfl)⟩,hk2,by omega⟩
       ·have cf:bU up (dF A k) r=false:=cf
        rw[AP (fun hx=>by have h3:bU up (dF A k) (bW (eJ f l up s) A k)=true:=hx.2;rw[hr,cf] at h3;cases h3)] at hsn2
        refine zd<|aM<|aA Z Z<|aa Z<|z6 ?_
        exact ⟨k+1,nK,aG,⟨_,(.refl _),(by rw[hsn2]<;>rfl)⟩,hk2,by omega⟩
     ·have hkn:k=f.vars.length+1:=by simp at ck;omega
      subst hkn
      refine y9<|aM<|aA Z Z<|aa Z<|z6 ?_
      exact ⟨q+1,km,aG,⟨_,(.refl _),by rw[hnx]⟩,by omega,by omega⟩
    ·obtain rfl:q=2:=by omega
     refine y9<|ah<|bw Z<|bM Z<|z6<|yg (aK.knowR (t:=8) Z .head hel)<|zg<|zk (x:=.fro _ _) Z ?_
     rfl
end
section
open Go.Proofs.Tryz
inductive Tr (α:Type) where
 |lf
 |nd (v:Option α) (l r:Tr α)
 deriving Inhabited
section
variable {α:Type}
inductive Pa where
 |e
 |l (p:Pa)
 |r (p:Pa)
 deriving DecidableEq
noncomputable def nC (n:Nat):Nat→Pa:=Nat.rec (motive:=fun _=>Nat→Pa) (fun _=>.e) (fun _ ih k=>Bool.rec (Bool.rec (.r (ih (Nat.sub (Nat.div k 2) 1))) (.l (ih (Nat.div k 2))) (Nat.beq (Nat.mod k 2) 1)) .e (Nat.beq k 0)) n
noncomputable def AQ (k:Nat):Pa:=nC (Nat.succ k) k
noncomputable def Tr.getP (p:Pa):Tr α→Option α:=Pa.rec (motive:=fun _=>Tr α→Option α) (fun t=>Tr.rec none (fun v _ _ _ _=>v) t) (fun _ ih t=>Tr.rec none (fun _ l _ _ _=>ih l) t) (fun _ ih t=>Tr.rec none (fun _ _ r _ _=>ih r) t) p
noncomputable def Tr.setP (p:Pa):Tr α→Option α→Tr α:=Pa.rec (motive:=fun _=>Tr α→Option α→Tr α) (fun t v=>Tr.rec (.nd v .lf .lf) (fun _ l r _ _=>.nd v l r) t) (fun _ ih t v=>Tr.rec (.nd none (ih .lf v) .lf) (fun u l r _ _=>.nd u (ih l v) r) t) (fun _ ih t v=>Tr.rec (.nd none .lf (ih .lf v)) (fun u l r _ _=>.nd u l (ih r v)) t) p
noncomputable def Tr.get (t:Tr α) (k:Nat):Option α:=Tr.getP (AQ k) t
noncomputable def Tr.set (t:Tr α) (k:Nat) (v:Option α):Tr α:=Tr.setP (AQ k) t v
theorem B4 {β:Type} (a b:Nat) (x y:β):(bif Nat.beq a b then x else y)=if a=b then x else y:=by
 by_cases h:a=b
 ·rw[if_pos h,h,show Nat.beq b b=true from Nat.beq_refl b];rfl
 ·rw[if_neg h,show Nat.beq a b=false from by cases e:Nat.beq a b<;>simp_all];rfl
def Pa.val:Pa→Nat
 |.e=>0
 |.l p=>2*p.val+1
 |.r p=>2*p.val+2
theorem ot:∀(n k:Nat),k<n→(nC n k).val=k
 |0,_,h=>absurd h (Nat.not_lt_zero _)
 |n+1,k,h=>by
  have e:nC (n+1) k=bif Nat.beq k 0 then Pa.e else bif Nat.beq (k % 2) 1 then Pa.l (nC n (k / 2)) else Pa.r (nC n (k / 2 - 1)):=by
   show (Bool.rec (Bool.rec (Pa.r (nC n (k / 2 - 1))) (Pa.l (nC n (k / 2))) (Nat.beq (k % 2) 1)) Pa.e (Nat.beq k 0):Pa)=_
   cases Nat.beq k 0<;>cases Nat.beq (k % 2) 1<;>rfl
  rw[e,B4,B4]
  by_cases h0:k=0
  ·rw[if_pos h0,h0];rfl
  ·rw[if_neg h0]
   by_cases h1:k % 2=1
   ·rw[if_pos h1]
    show 2*(nC n (k / 2)).val+1=k
    rw[ot n _ (by omega)];omega
   ·rw[if_neg h1]
    show 2*(nC n (k / 2 - 1)).val+2=k
    rw[ot n _ (by omega)];omega
theorem rY (k:Nat):(AQ k).val=k:=ot (k+1) k (Nat.lt_succ_self k)
theorem Tr.getP_lf:∀p:Pa,Tr.getP p (Tr.lf:Tr α)=none
 |.e=>rfl
 |.l _=>rfl
 |.r _=>rfl
theorem Tr.get_lf (k:Nat):(Tr.lf:Tr α).get k=none:=Tr.getP_lf _
theorem Tr.getP_set:∀(p q:Pa) (t:Tr α) (v:Option α),Tr.getP q (Tr.setP p t v)=if q=p then v else Tr.getP q t
 |.e,.e,t,v=>by rw[if_pos rfl];cases t<;>rfl
 |.e,.l q,t,v=>by
  rw[if_neg (by simp)]
  cases t with
  |lf=>exact Tr.getP_lf q
  |nd=>rfl
 |.e,.r q,t,v=>by
  rw[if_neg (by simp)]
  cases t with
  |lf=>exact Tr.getP_lf q
  |nd=>rfl
 |.l p,.e,t,v=>by rw[if_neg (by simp)];cases t<;>rfl
 |.r p,.e,t,v=>by rw[if_neg (by simp)];cases t<;>rfl
 |.l p,.r q,t,v=>by
  rw[if_neg (by simp)]
  cases t with
  |lf=>exact Tr.getP_lf q
  |nd=>rfl
 |.r p,.l q,t,v=>by
  rw[if_neg (by simp)]
  cases t with
  |lf=>exact Tr.getP_lf q
  |nd=>rfl
 |.l p,.l q,t,v=>by
  have e:(Pa.l q=Pa.l p)=(q=p):=by simp
  simp only[e]
  cases t with
  |lf=>exact (Tr.getP_set p q .lf v).trans (by rw[Tr.getP_lf];rfl)
  |nd u l r=>exact Tr.getP_set p q l v
 |.r p,.r q,t,v=>by
  have e:(Pa.r q=Pa.r p)=(q=p):=by simp
  simp only[e]
  cases t with
  |lf=>exact (Tr.getP_set p q .lf v).trans (by rw[Tr.getP_lf];rfl)
  |nd u l r=>exact Tr.getP_set p q r v
theorem Tr.get_set (t:Tr α) (k:Nat) (v:Option α) (j:Nat):(t.set k v).get j=if j=k then v else t.get j:=by
 unfold Tr.get Tr.set
 rw[Tr.getP_set]
 by_cases h:j=k
 ·rw[if_pos h,if_pos (by rw[h])]
 ·rw[if_neg h,if_neg fun e=>h (by rw[←rY j,←rY k,e])]
end
inductive Cp where
 |ex (m:Nat)
 |en
 |un
inductive EV where
 |u
 |b (x:Bool)
 |i (k:IntKind) (n:Int)
 |s (x:ByteArray)
 |np
 |p (b off:Nat)
 |ns
 |sl (b off n k:Nat) (c:Cp)
 |ag (l:List EV)
 |tu (l:List EV)
 |fn (f:Nat) (a c:List EV)
 |nf
 |ifc (t:Nat) (v:EV)
 |ni
 |m (b:Nat)
 |nm
instance:Inhabited EV:=⟨.u⟩
structure EK where
 r:Nat
 sh:Nat
 κ:Nat
abbrev dG:=Nat→Option EK
def dG.le (φ ψ:dG):Prop:=∀b q,φ b=some q→ψ b=some q
theorem dG.le.refl (φ:dG):φ.le φ:=fun _ _ h=>h
theorem dG.le.trans {φ ψ χ:dG} (h:φ.le ψ) (k:ψ.le χ):φ.le χ:=fun b q e=>k b q (h b q e)
def dG.put (φ:dG) (b:Nat) (q:EK):dG:=fun x=>if x=b then some q else φ x
theorem dG.put_same (φ:dG) (b:Nat) (q:EK):φ.put b q b=some q:=if_pos rfl
theorem dG.le_put {φ:dG} {b:Nat} (h:φ b=none) (q:EK):φ.le (φ.put b q):=fun x q' e=>by
 unfold dG.put;split
 ·rename_i e';subst e';rw[h] at e;cases e
 ·exact e
def Ml (q:EK) (off k:Nat):Cp→Nat→Prop
 |.ex m,cap=>cap=m
 |.en,cap=>q.sh+off+cap*k=q.κ
 |.un,_=>True
mutual
def bh (φ:dG):EV→Value→Prop
 |.u,_=>True
 |.b x,v=>v=.bool x
 |.i k n,v=>v=.int k n
 |.s x,v=>v=.string x
 |.np,v=>v=.pointer none
 |.p b off,v=>∃q,φ b=some q∧v=.pointer (some ⟨q.r,q.sh+off,none⟩)
 |.ns,v=>v=.slice none 0 0
 |.sl b off n k c,v=>∃q o cap,φ b=some q∧v=.slice (some ⟨q.r,o,none⟩) n cap∧n≤cap∧(cap≠0→o=q.sh+off)∧Ml q off k c cap
 |.ag l,v=>∃vs:List Value,v=.agg vs.toArray∧RelVs φ l vs
 |.tu l,v=>∃vs:List Value,v=.tuple vs.toArray∧RelVs φ l vs
 |.fn f a c,v=>∃vs us:List Value,v=.func (.func f) vs.toArray us.toArray∧RelVs φ a vs∧RelVs φ c us
 |.nf,v=>v=.nilFunc
 |.ifc t x,v=>∃u,v=.iface t u∧bh φ x u
 |.ni,v=>v=.nilIface
 |.m b,v=>∃q,φ b=some q∧v=.map (some q.r)
 |.nm,v=>v=.map none
def RelVs (φ:dG):List EV→List Value→Prop
 |[],vs=>vs=[]
 |x::xs,vs=>∃v us,vs=v::us∧bh φ x v∧RelVs φ xs us
end
mutual
theorem bh.mono {φ ψ:dG} (h:φ.le ψ):∀(x:EV) (v:Value),bh φ x v→bh ψ x v
 |.u,_,_=>trivial
 |.b _,_,e=>e
 |.i _ _,_,e=>e
 |.s _,_,e=>e
 |.np,_,e=>e
 |.p _ _,_,⟨q,a,e⟩=>⟨q,h _ _ a,e⟩
 |.ns,_,e=>e
 |.sl _ _ _ _ _,_,⟨q,o,cap,a,e⟩=>⟨q,o,cap,h _ _ a,e⟩
 |.ag l,_,⟨vs,e,k⟩=>⟨vs,e,RelVs.mono h l vs k⟩
 |.tu l,_,⟨vs,e,k⟩=>⟨vs,e,RelVs.mono h l vs k⟩
 |.fn _ a c,_,⟨vs,us,e,k1,k2⟩=>⟨vs,us,e,RelVs.mono h a vs k1,RelVs.mono h c us k2⟩
 |.nf,_,e=>e
 |.ifc _ x,_,⟨u,e,k⟩=>⟨u,e,bh.mono h x u k⟩
 |.ni,_,e=>e
 |.m _,_,⟨q,a,e⟩=>⟨q,h _ _ a,e⟩
 |.nm,_,e=>e
theorem RelVs.mono {φ ψ:dG} (h:φ.le ψ):∀(x:List EV) (v:List Value),RelVs φ x v→RelVs ψ x v
 |[],_,e=>e
 |x::xs,_,⟨v,us,e,h1,h2⟩=>⟨v,us,e,bh.mono h x v h1,RelVs.mono h xs us h2⟩
end
section
variable {φ ψ:dG}
theorem RelVs.length:∀{xs:List EV} {vs:List Value},RelVs φ xs vs→vs.length=xs.length
 |[],_,e=>by simp[RelVs] at e;simp[e]
 |x::xs,_,⟨v,us,e,_,h2⟩=>by subst e;simp[RelVs.length h2]
theorem RelVs.get:∀{xs:List EV} {vs:List Value},RelVs φ xs vs→∀{j:Nat} {x:EV},xs[j]?=some x→∃v,vs[j]?=some v∧bh φ x v
 |[],_,_,j,x,hj=>by simp at hj
 |y::ys,_,⟨v,us,e,h1,h2⟩,j,x,hj=>by
  subst e
  cases j with
  |zero=>simp at hj;subst hj;exact ⟨v,rfl,h1⟩
  |succ j=>simp at hj;simpa using RelVs.get h2 hj
theorem RelVs.take:∀{xs:List EV} {vs:List Value},RelVs φ xs vs→∀n,RelVs φ (xs.take n) (vs.take n)
 |[],_,e,n=>by simp[RelVs] at e;simp[e,RelVs]
 |y::ys,_,⟨v,us,e,h1,h2⟩,n=>by
  subst e
  cases n with
  |zero=>simp[RelVs]
  |succ n=>exact ⟨v,us.take n,by simp,h1,RelVs.take h2 n⟩
theorem RelVs.drop:∀{xs:List EV} {vs:List Value},RelVs φ xs vs→∀n,RelVs φ (xs.drop n) (vs.drop n)
 |[],_,e,n=>by simp[RelVs] at e;simp[e,RelVs]
 |y::ys,_,⟨v,us,e,h1,h2⟩,n=>by
  subst e
  cases n with
  |zero=>exact ⟨v,us,rfl,h1,h2⟩
  |succ n=>simpa using RelVs.drop h2 n
theorem RelVs.append:∀{xs ys:List EV} {vs us:List Value},RelVs φ xs vs→RelVs φ ys us→RelVs φ (xs++ys) (vs++us)
 |[],_,_,_,e,h=>by simp[RelVs] at e;simpa [e] using h
 |y::ys,_,_,_,⟨v,us,e,h1,h2⟩,h=>by subst e;exact ⟨v,_,rfl,h1,RelVs.append h2 h⟩
theorem RelVs.one {x:EV} {v:Value} (h:bh φ x v):RelVs φ [x] [v]:=⟨v,[],rfl,h,rfl⟩
def EV.cell:EV→Bool
 |.u | .ag _ | .tu _=>false
 |_=>true
theorem EV.cell_rel {x:EV} {v:Value} (h:bh φ x v) (hc:x.cell=true):v.oneCell'=true:=by
 cases x<;>simp only[bh,EV.cell] at h hc
 all_goals first
  |(cases hc;done)
  |(subst h;rfl)
  |(obtain ⟨_,_,_,_,e,_⟩:=h;subst e;rfl)
  |(obtain ⟨_,_,e,_⟩:=h;subst e;rfl)
  |(obtain ⟨_,e,_⟩:=h;subst e;rfl)
  |(obtain ⟨_,_,e⟩:=h;subst e;rfl)
theorem EV.cells_rel {xs:List EV} {vs:List Value} (h:RelVs φ xs vs) (hc:xs.all EV.cell=true):∀u∈vs,u.oneCell'=true:=by
 intro u hu
 obtain ⟨j,hj⟩:=List.getElem?_of_mem hu
 have hlt:=(List.getElem?_eq_some_iff.1 hj).1
 rw[h.length] at hlt
 obtain ⟨v,hv,hr⟩:=h.get (qq hlt)
 rw[hj] at hv;cases hv
 exact EV.cell_rel hr (List.all_eq_true.1 hc _ (qu hlt))
def EV.cs:EV→List EV
 |.ag l=>l
 |x=>[x]
def EV.sto:EV→Bool
 |.u | .tu _=>false
 |_=>true
theorem EV.cs_rel {x:EV} {v:Value} (h:bh φ x v) (hs:x.sto=true):RelVs φ x.cs v.cells.toList:=by
 cases x<;>simp only[EV.sto] at hs
 all_goals first
  |(cases hs;done)
  |(obtain ⟨vs,rfl,h2⟩:=h;simpa [EV.cs,Value.cells] using h2)
  |skip
 all_goals (
  have hc:=EV.cell_rel h rfl
  have hv:v.cells=#[v]:=by cases v<;>first|rfl|(simp[Value.oneCell'] at hc)
  rw[hv];exact RelVs.one h)
end
inductive VO where
 |cells (ex:Bool) (cs:List EV)
 |kn (cs:List EV)
 |it (s:ByteArray) (p:Nat)
 |mp (es:List (EV × EV))
abbrev Hp:=Tr VO
def dT (φ:dG):List (EV × EV)→List MapEntry→Prop
 |[],es=>es=[]
 |x::xs,es=>∃e r,es=e::r∧bh φ x.1 e.key∧bh φ x.2 e.val∧dT φ xs r
theorem dT.mono {φ ψ:dG} (h:φ.le ψ):∀{x:List (EV × EV)} {v:List MapEntry},dT φ x v→dT ψ x v
 |[],_,e=>e
 |_::_,_,⟨e,r,a,b,c,d⟩=>⟨e,r,a,b.mono h,c.mono h,dT.mono h d⟩
def pi (ms:List MapEntry):Prop:=∀(j:Nat) (e:MapEntry),ms[j]?=some e→e.born=j
def iJ (I:aT) (φ:dG) (k:Nat) (o:VO) (A:List (Nat × Obj)):Prop:=
 match o with
 |.cells ex cs=>∃q T vs junk,φ k=some q∧q.sh=0∧RelVs φ cs vs∧(∀u∈vs++junk,u.oneCell'=true)∧(vs++junk).length=q.κ∧(ex=true→junk=[])∧A=[(q.r,.cells (vs++junk).toArray T (0,0))]
 |.kn cs=>∃q vs,φ k=some q∧RelVs φ cs vs∧(∀u∈vs,u.oneCell'=true)∧(∀(j:Nat) u,vs[j]?=some u→Bg I q.r (q.sh+j) u)∧A=[]
 |.it s p=>∃q,φ k=some q∧q.sh=0∧A=[(q.r,.stringIter s p)]
 |.mp es=>∃q ms,φ k=some q∧(dT φ es ms∧pi ms)∧A=[(q.r,.map ms.toArray ms.length)]
theorem iJ.mono {I J:aT} {φ ψ:dG} (hI:I.le J) (h:φ.le ψ) {k:Nat} {o:VO} {A:List (Nat × Obj)} (hb:iJ I φ k o A):iJ J ψ k o A:=by
 cases o<;>simp only[iJ] at *
 ·obtain ⟨q,T,vs,junk,h1,h2,h3,h4⟩:=hb;exact ⟨q,T,vs,junk,h _ _ h1,h2,h3.mono h,h4⟩
 ·obtain ⟨q,vs,h1,h2,h3,h4,h5⟩:=hb;exact ⟨q,vs,h _ _ h1,h2.mono h,h3,fun j u e=>(h4 j u e).mono hI,h5⟩
 ·obtain ⟨q,h1,h2⟩:=hb;exact ⟨q,h _ _ h1,h2⟩
 ·obtain ⟨q,ms,h1,h2,h3⟩:=hb;exact ⟨q,ms,h _ _ h1,⟨h2.1.mono h,h2.2⟩,h3⟩
theorem iJ.phi {I:aT} {φ:dG} {k:Nat} {o:VO} {A:List (Nat × Obj)} (hb:iJ I φ k o A):∃q,φ k=some q:=by
 cases o<;>simp only[iJ] at hb
 ·obtain ⟨q,T,vs,junk,h1,_⟩:=hb;exact ⟨q,h1⟩
 ·obtain ⟨q,vs,h1,_⟩:=hb;exact ⟨q,h1⟩
 ·obtain ⟨q,h1,_⟩:=hb;exact ⟨q,h1⟩
 ·obtain ⟨q,ms,h1,_⟩:=hb;exact ⟨q,h1⟩
def iK (I:aT) (φ:dG):List (Nat × VO)→List (Nat × Obj)→Prop
 |[],L=>L=[]
 |x::xs,L=>∃A B,L=A++B∧iJ I φ x.1 x.2 A∧iK I φ xs B
theorem iK.mono {I J:aT} {φ ψ:dG} (hI:I.le J) (h:φ.le ψ):∀{M:List (Nat × VO)} {L:List (Nat × Obj)},iK I φ M L→iK J ψ M L
 |[],_,e=>e
 |_::_,_,⟨A,B,e,h1,h2⟩=>⟨A,B,e,h1.mono hI h,iK.mono hI h h2⟩
theorem iK.perm {I:aT} {φ:dG} {M M':List (Nat × VO)} (h:M.Perm M'):∀{L},iK I φ M L→∃L',iK I φ M' L'∧L.Perm L':=by
 induction h with
 |nil=>exact fun h=>⟨_,h,.refl _⟩
 |cons x _ ih=>
  rintro L ⟨A,B,rfl,h1,h2⟩
  obtain ⟨B',h3,h4⟩:=ih h2
  exact ⟨A++B',⟨A,B',rfl,h1,h3⟩,h4.append_left A⟩
 |swap x y _=>
  rintro L ⟨A,B,rfl,h1,C,D,rfl,h2,h3⟩
  exact ⟨C++(A++D),⟨C,A++D,rfl,h2,A,D,rfl,h1,h3⟩,by
   rw[←qs,←qs]
   exact List.perm_append_comm.append_right D⟩
 |trans _ _ ih1 ih2=>
  intro L h
  obtain ⟨L1,h1,p1⟩:=ih1 h
  obtain ⟨L2,h2,p2⟩:=ih2 h1
  exact ⟨L2,h2,p1.trans p2⟩
theorem iK.phi {I:aT} {φ:dG}:∀{M:List (Nat × VO)} {L:List (Nat × Obj)},iK I φ M L→∀x∈M,∃q,φ x.1=some q
 |_::_,_,⟨_,_,_,h1,h2⟩,x,hx=>by
  rcases List.mem_cons.1 hx with rfl|hx
  ·exact h1.phi
  ·exact iK.phi h2 x hx
def sX (I:aT) (φ:dG) (H:Hp) (k:Nat) (L:List (Nat × Obj)):Prop:=
 ∃M,(M.map (·.1)).Nodup∧(∀j o,(j,o)∈M↔j≠k∧H.get j=some o)∧iK I φ M L
structure d4 (I:aT) (φ:dG) (H:Hp) (nx:Nat) (F:List (Nat × Obj)) (E w:World):Prop where
 top:∀j,nx≤j→φ j=none
 ex:∃M L,(M.map (·.1)).Nodup∧(∀j o,(j,o)∈M↔H.get j=some o)∧iK I φ M L∧SL I (L++F) E w
section
variable {I J:aT} {φ ψ:dG} {H:Hp} {nx:Nat} {F:List (Nat × Obj)} {E w:World} {k:Nat} {o:VO} {L A:List (Nat × Obj)}
theorem sX.mono (hI:I.le J) (h:φ.le ψ) (hr:sX I φ H k L):sX J ψ H k L:=let ⟨M,a,b,c⟩:=hr;⟨M,a,b,c.mono hI h⟩
theorem d4.pick (h:d4 I φ H nx F E w) (hk:H.get k=some o):∃A L,iJ I φ k o A∧sX I φ H k L∧SL I (A++(L++F)) E w:=by
 obtain ⟨M,L,hn,hm,hr,hS⟩:=h.ex
 have hmem:=(hm k o).2 hk
 obtain ⟨M1,M2,rfl⟩:=List.append_of_mem hmem
 obtain ⟨L',hr',hp⟩:=hr.perm (M':=(k,o)::(M1++M2)) List.perm_middle
 obtain ⟨A,B,rfl,h1,h2⟩:=hr'
 have hn2:(((k,o)::(M1++M2)).map (·.1)).Nodup:=((List.perm_middle (a:=(k,o)) (l₁:=M1) (l₂:=M2)).map (·.1)).nodup_iff.1 hn
 simp only[List.map_cons,List.nodup_cons] at hn2
 refine ⟨A,B,h1,⟨M1++M2,hn2.2,fun j o'=>?_,h2⟩,hS.perm ?_⟩
 ·rw[←hm j o']
  constructor
  ·intro hj
   refine ⟨fun e=>hn2.1 (List.mem_map.2 ⟨(j,o'),hj,e⟩),?_⟩
   rw[(List.perm_middle (a:=(k,o)) (l₁:=M1) (l₂:=M2)).mem_iff]
   exact List.mem_cons_of_mem _ hj
  ·rintro ⟨hne,hj⟩
   rw[(List.perm_middle (a:=(k,o)) (l₁:=M1) (l₂:=M2)).mem_iff] at hj
   rcases List.mem_cons.1 hj with e|hj
   ·cases e;exact absurd rfl hne
   ·exact hj
 ·rw[←qs];exact (hp.append_right F).symm
theorem d4.close (hr:sX I φ H k L) (hb:iJ I φ k o A) (hS:SL I (A++(L++F)) E w) (ht:∀j,nx≤j→φ j=none):d4 I φ (H.set k (some o)) nx F E w:=by
 obtain ⟨M,hn,hm,hr⟩:=hr
 refine ⟨ht,(k,o)::M,A++L,?_,fun j o'=>?_,⟨A,L,Z,hb,hr⟩,by rw[qs];exact hS⟩
 ·simp only[List.map_cons,List.nodup_cons]
  refine ⟨fun hk=>?_,hn⟩
  obtain ⟨x,hx,e⟩:=List.mem_map.1 hk
  exact ((hm x.1 x.2).1 hx).1 e
 ·rw[Tr.get_set,List.mem_cons,hm j o']
  by_cases e:j=k
  ·rw[if_pos e];subst e;simp[eq_comm]
  ·rw[if_neg e];simp[e]
theorem d4.gone (hr:sX I φ H k L) (hS:SL I (L++F) E w) (ht:∀j,nx≤j→φ j=none):d4 I φ (H.set k none) nx F E w:=by
 obtain ⟨M,hn,hm,hr⟩:=hr
 refine ⟨ht,M,L,hn,fun j o'=>?_,hr,hS⟩
 rw[Tr.get_set,hm j o']
 by_cases e:j=k
 ·rw[if_pos e];simp[e]
 ·rw[if_neg e];simp[e]
theorem d4.mono (h:d4 I φ H nx F E w) {n':Nat} (hn:nx≤n'):d4 I φ H n' F E w:=⟨fun j hj=>h.top j (Nat.le_trans hn hj),h.ex⟩
theorem d4.drew (h:d4 I φ H nx F E w):d4 I φ H nx F E w.drew:=let ⟨M,L,a,b,c,d⟩:=h.ex;⟨h.top,M,L,a,b,c,d.drew⟩
theorem d4.sl (h:d4 I φ H nx F E w):SL I F E w:=let ⟨_,_,_,_,_,d⟩:=h.ex;d.dropAll
def VO.cs?:VO→Option (List EV)
 |.cells _ cs=>some cs
 |.kn cs=>some cs
 |_=>none
theorem d4.read (h:d4 I φ H nx F E w) (hk:H.get k=some o) {cs:List EV} (hc:o.cs?=some cs) {q:EK} (hq:φ k=some q) :
  ∃vs,RelVs φ cs vs∧(∀u∈vs,u.oneCell'=true)∧∀(j:Nat) v,vs[j]?=some v→w.cell? ⟨q.r,q.sh+j,none⟩=some v:=by
 obtain ⟨A,L,hb,_,hS⟩:=h.pick hk
 cases o<;>simp only[VO.cs?] at hc
 ·cases hc
  obtain ⟨q',T,vs,junk,h1,h2,h3,h4,h5,h6,rfl⟩:=hb
  rw[hq] at h1;cases h1
  refine ⟨vs,h3,fun u hu=>h4 u (List.mem_append_left _ hu),fun j v hj=>?_⟩
  rw[SL.cell_own (c:=(vs++junk).toArray) (T:=T) (f:=(0,0)) (O:=L++F) hS,h2,Nat.zero_add,List.getElem?_toArray,List.getElem?_append_left (List.getElem?_eq_some_iff.1 hj).1]
  exact hj
 ·cases hc
  obtain ⟨q',vs,h1,h2,h3,h4,rfl⟩:=hb
  rw[hq] at h1;cases h1
  exact ⟨vs,h2,h3,fun j v hj=>hS.at_ ((h4 j v hj).at_ _)⟩
 ·cases hc
 ·cases hc
end
def fP (φ:dG) (g:Nat→EV) (ρ:cO):Prop:=∀t,bh φ (g t) (ρ t)
theorem fP.mono {φ ψ:dG} (h:φ.le ψ) {g:Nat→EV} {ρ:cO} (hr:fP φ g ρ):fP ψ g ρ:=fun t=>(hr t).mono h
end
section
open Go.Proofs.Tryz
structure TI where
 d:TypeDesc
 size:Nat
 bytes:Nat
 z:List EV
 v:EV
 g:Bool
 q:Bool
 ms:String→Option Nat
 mi:Array (String × TypeId)→Bool
def GP:TypeDesc→Bool
 |.struct _=>true
 |.array _ _=>true
 |_=>false
structure u9 (P:Program) (t:TypeId) (i:TI):Prop where
 und:P.underlying t=some i.d
 inf:∃f zv,P.info? t=some f∧f.size=i.size∧f.bytes=i.bytes∧f.zero=some zv∧(∀φ,RelVs φ i.z zv.cells.toList)∧∀φ,bh φ i.v zv
 z1:i.z.all EV.cell=true
 zl:i.z.length=i.size
 gd:i.g=true→P.eqGuardType P.depth t=false
 qd:i.q=true→P.stoodInHeld t=false∧∀fs,i.d=.struct fs→∀f∈fs.toList,f.name≠"_"
 mt:∀nm f,i.ms nm=some f→∀(k:Nat) (v:Value) (w:World),(method (k+1) t v nm).run P w=.ok (f,v) w
 md:∃f,P.info? t=some f∧∀want,(Instr.missingMethod want f.methods).isNone=i.mi want
abbrev TT:=Nat→Option TI
def dV (P:Program) (T:TT):Prop:=∀t i,T t=some i→u9 P t i
section
variable {P:Program} {t:TypeId} {i:TI} (h:u9 P t i)
include h
theorem u9.sz (w:World):(sizeOf t).run P w=.ok i.size w:=by
 obtain ⟨f,zv,h1,h2,_⟩:=h.inf
 simp[sizeOf,typeInfo,h1,h2]
theorem u9.agg (w:World):(isAgg t).run P w=.ok (GP i.d) w:=by
 unfold isAgg
 rw[Sem.run_bind,run_underlying h.und]
 cases i.d<;>rfl
theorem u9.zero:∃zv,(∀w,(zeroValue t).run P w=.ok zv w)∧(∀φ,RelVs φ i.z zv.cells.toList)∧zv.cells.size=i.size:=by
 obtain ⟨f,zv,h1,h2,h3,h4,h5⟩:=h.inf
 refine ⟨zv,fun w=>by simp[zeroValue,typeInfo,h1,h4],h5.1,?_⟩
 have:=(h5.1 (fun _=>none)).length
 rw[h.zl] at this
 simpa using this
theorem u9.zeroV:∃zv,(∀w,(zeroValue t).run P w=.ok zv w)∧∀φ,bh φ i.v zv:=by
 obtain ⟨f,zv,h1,h2,h3,h4,h5⟩:=h.inf
 exact ⟨zv,fun w=>by simp[zeroValue,typeInfo,h1,h4],h5.2⟩
end
section
variable {φ:dG}
theorem RelVs.r1 {x:EV} {a:Value} (h:RelVs φ [x] [a]):bh φ x a:=by
 obtain ⟨v,us,e,h1,h2⟩:=h;cases e;exact h1
end
def va (a b:ByteArray):Bool:=beqL a.data.toList b.data.toList
where
 beqL:List UInt8→List UInt8→Bool
  |[],[]=>true
  |x::l,y::m=>Nat.beq x.toNat y.toNat&&beqL l m
  |_,_=>false
theorem B5:∀(a b:List UInt8),va.beqL a b=decide (a=b)
 |[],[]=>rfl
 |[],_::_=>rfl
 |_::_,[]=>rfl
 |x::l,y::m=>by
  unfold va.beqL
  rw[B5 l m]
  by_cases h:x=y
  ·subst h
   rw[show Nat.beq x.toNat x.toNat=true from Nat.beq_refl _]
   by_cases h2:l=m<;>simp[h2]
  ·have:Nat.beq x.toNat y.toNat=false:=by
    cases e:Nat.beq x.toNat y.toNat with
    |false=>rfl
    |true=>exact absurd (UInt8.toNat_inj.1 (Nat.eq_of_beq_eq_true e)) h
   rw[this];simp[h]
theorem lV (a b:ByteArray):va a b=decide (a=b):=by
 unfold va
 rw[B5]
 rw[decide_eq_decide]
 constructor
 ·intro h;cases a;cases b;simp only[ByteArray.mk.injEq];exact Array.toList_inj.1 h
 ·intro h;rw[h]
noncomputable def GQ (op:BinOp) (k:IntKind) (a b:Int):Option EV:=
 match op with
 |.add=>some (.i k (k.wrap (a+b)))
 |.sub=>some (.i k (k.wrap (a - b)))
 |.mul=>some (.i k (k.wrap (a*b)))
 |.quo=>if b=0 then none else some (.i k (k.wrap (a.tdiv b)))
 |.rem=>if b=0 then none else some (.i k (a.tmod b))
 |.and=>some (.i k (k.wrap (BitVec.ofInt k.bits a &&& BitVec.ofInt k.bits b).toNat))
 |.or=>some (.i k (k.wrap (BitVec.ofInt k.bits a ||| BitVec.ofInt k.bits b).toNat))
 |.xor=>some (.i k (k.wrap (BitVec.ofInt k.bits a ^^^ BitVec.ofInt k.bits b).toNat))
 |.andNot=>some (.i k (k.wrap (BitVec.ofInt k.bits a &&& ~~~BitVec.ofInt k.bits b).toNat))
 |.eql=>some (.b (a == b))
 |.neq=>some (.b (a != b))
 |.lss=>some (.b (decide (a<b)))
 |.leq=>some (.b (decide (a≤b)))
 |.gtr=>some (.b (decide (b<a)))
 |.geq=>some (.b (decide (b≤a)))
 |.shl | .shr=>none
noncomputable def I9 (op:BinOp) (k:IntKind) (a b:Int):Option EV:=
 if b<0 then none else
 match op with
 |.shl=>some (.i k (k.wrap (a*2 ^ min b.toNat k.bits)))
 |.shr=>some (.i k (a.fdiv (2 ^ min b.toNat k.bits)))
 |_=>none
noncomputable def GR (op:BinOp) (a b:ByteArray):Option EV:=
 match op with
 |.eql=>some (.b (va a b))
 |.neq=>some (.b (!va a b))
 |.add=>if Nat.ble (a.data.toList.length+b.data.toList.length) 1000000 then some (.s ⟨(a.data.toList++b.data.toList).toArray⟩) else none
 |_=>none
noncomputable def ud (d:TypeDesc) (x y:EV):Option Bool:=
 match d,x,y with
 |.pointer _,.np,.np=>some true
 |.pointer _,.p _ _,.np=>some false
 |.slice _,.ns,.ns=>some true
 |.slice _,.sl _ _ _ _ _,.ns=>some false
 |.map _ _,.nm,.nm=>some true
 |.map _ _,.m _,.nm=>some false
 |_,_,_=>none
noncomputable def B6 (T:TT) (op:BinOp) (t:TypeId) (o:Operand) (x y:EV):Option EV:=
 match x,y with
 |.i k a,.i k' b=>match op with
  |.shl=>I9 .shl k a b
  |.shr=>I9 .shr k a b
  |_=>if k=k' then GQ op k a b else none
 |.s a,.s b=>GR op a b
 |.b a,.b b=>match op,(T t).map (·.d) with
  |.eql,some TypeDesc.bool=>some (.b (a == b))
  |.neq,some TypeDesc.bool=>some (.b (!(a == b)))
  |_,_=>none
 |x,y=>match op,T t with
  |.eql,some i=>(ud i.d x y).map EV.b
  |.neq,some i=>(ud i.d x y).map fun z=>.b (!z)
  |_,_=>none
noncomputable def Ja (op:UnOp) (x:EV):Option EV:=
 match op,x with
 |.not,.b a=>some (.b (!a))
 |.neg,.i k a=>some (.i k (k.wrap (0 - a)))
 |_,_=>none
section
variable {P:Program} {φ:dG} {ρ:cO} {w:World} {T:TT} {o:Oper} {t:TypeId}
theorem GS {op:BinOp} {k:IntKind} {a b:Int} {x:EV} (h:GQ op k a b=some x):∃v,(binOp op t (.int k a) (.int k b)).run P w=.ok v w∧bh φ x v:=by
 cases op<;>simp only[GQ] at h
 case quo=>split at h<;>first|(cases h;done)|(cases h;rename_i hb;exact ⟨_,by simp[binOp,Op.intDiv,hb],rfl⟩)
 case rem=>split at h<;>first|(cases h;done)|(cases h;rename_i hb;exact ⟨_,by simp[binOp,Op.intDiv,hb],rfl⟩)
 case shl=>cases h
 case shr=>cases h
 case add=>cases h;exact ⟨_,by rw[show binOp .add t (.int k a) (.int k b)=Op.intArith .add k a b by simp[binOp]];rfl,rfl⟩
 case sub=>cases h;exact ⟨_,by rw[show binOp .sub t (.int k a) (.int k b)=Op.intArith .sub k a b by simp[binOp]];rfl,rfl⟩
 case mul=>cases h;exact ⟨_,by rw[show binOp .mul t (.int k a) (.int k b)=Op.intArith .mul k a b by simp[binOp]];rfl,rfl⟩
 case and=>cases h;exact ⟨_,by rw[binOp_and];rfl,rfl⟩
 case or=>cases h;exact ⟨_,by rw[binOp_or];rfl,rfl⟩
 case xor=>cases h;exact ⟨_,by rw[binOp_xor];rfl,rfl⟩
 case andNot=>cases h;exact ⟨_,by rw[binOp_andNot];rfl,rfl⟩
 case eql=>cases h;exact ⟨_,by rw[binOp_eql];rfl,rfl⟩
 case neq=>cases h;exact ⟨_,by rw[binOp_neq];rfl,rfl⟩
 case lss=>cases h;exact ⟨_,by rw[binOp_lss];rfl,rfl⟩
 case leq=>cases h;exact ⟨_,by rw[binOp_leq];rfl,rfl⟩
 case gtr=>cases h;exact ⟨_,by rw[binOp_gtr];rfl,rfl⟩
 case geq=>cases h;exact ⟨_,by rw[binOp_geq];rfl,rfl⟩
theorem B7 {op:BinOp} {k k':IntKind} {a b:Int} {x:EV} (ho:op=.shl∨op=.shr) (h:I9 op k a b=some x):∃v,(binOp op t (.int k a) (.int k' b)).run P w=.ok v w∧bh φ x v:=by
 unfold I9 at h
 split at h
 ·cases h
 ·rename_i hb
  rcases ho with rfl|rfl<;>(cases h;exact ⟨_,by simp[binOp,Op.shift,hb],rfl⟩)
theorem En (a b:ByteArray):(⟨(a.data.toList++b.data.toList).toArray⟩:ByteArray)=a++b:=by
 have:(a++b).data=a.data++b.data:=ByteArray.data_append
 cases hab:a++b with
 |mk d=>
  rw[hab] at this
  simp only at this
  rw[this];congr 1;simp
theorem GT {op:BinOp} {a b:ByteArray} {x:EV} (h:GR op a b=some x):∃v,(binOp op t (.string a) (.string b)).run P w=.ok v w∧bh φ x v:=by
 cases op<;>simp only[GR] at h
 case add=>
  split at h
  ·rename_i hl
   cases h
   have hl:=Nat.le_of_ble_eq_true hl
   refine ⟨.string (a++b),?_,by rw[En];rfl⟩
   have h2:¬((a.size+b.size:Nat):Int)>IntKind.i64.max:=by
    have e1:a.size=a.data.toList.length:=by rw[Array.length_toList];rfl
    have e2:b.size=b.data.toList.length:=by rw[Array.length_toList];rfl
    have:IntKind.i64.max=9223372036854775807:=by decide
    rw[this];omega
   simp only[binOp,Op.stringOp]
   rw[if_neg h2];rfl
  ·cases h
 case eql=>cases h;refine ⟨.bool (a.toList == b.toList),by rw[binOp_string_eql];rfl,?_⟩;show Value.bool _=Value.bool _;rw[mT,lV]
 case neq=>cases h;refine ⟨.bool (!a.toList == b.toList),by rw[binOp_string_neq];rfl,?_⟩;show Value.bool _=Value.bool _;rw[mT,lV]
 all_goals cases h
theorem xh {d:TypeDesc} {x y:EV} {a c:Value} {b:Bool} {op:BinOp} {p q:Operand} (h:ud d x y=some b) (hd:P.underlying t=some d) (hx:bh φ x a) (hy:bh φ y c) :
  (eqGuard op t p q a c).run P w=.ok () w∧(binOp .eql t a c).run P w=.ok (.bool b) w∧(binOp .neq t a c).run P w=.ok (.bool (!b)) w:=by
 unfold ud at h
 split at h
 case h_1 e=>
  have hx:a=.pointer none:=hx
  have hy:c=.pointer none:=hy
  have hp:P.pointee t=e:=by unfold Program.pointee;rw[hd]
  cases h;subst hx hy
  exact ⟨kH,run_eql_pointer_nil w t none (by rw[hp];exact hd),run_neq_pointer_nil w t none (by rw[hp];exact hd)⟩
 case h_2 e _ _=>
  obtain ⟨_,_,rfl⟩:=hx
  have hy:c=.pointer none:=hy
  have hp:P.pointee t=e:=by unfold Program.pointee;rw[hd]
  cases h;subst hy
  exact ⟨kH,run_eql_pointer_nil w t _ (by rw[hp];exact hd),run_neq_pointer_nil w t _ (by rw[hp];exact hd)⟩
 case h_3 e=>
  have hx:a=.slice none 0 0:=hx
  have hy:c=.slice none 0 0:=hy
  cases h;subst hx hy
  exact ⟨jI,Lib.run_eql_slice_nil w t e none 0 0 0 0 hd,run_neq_slice_nil_any w t e none 0 0 0 0 hd⟩
 case h_4 e _ _ _ _ _=>
  obtain ⟨_,_,_,_,rfl,_⟩:=hx
  have hy:c=.slice none 0 0:=hy
  cases h;subst hy
  exact ⟨jI,Lib.run_eql_slice_nil w t e _ _ _ 0 0 hd,run_neq_slice_nil_any w t e _ _ _ 0 0 hd⟩
 case h_5 k e=>
  have hx:a=.map none:=hx
  have hy:c=.map none:=hy
  cases h;subst hx hy
  exact ⟨by unfold eqGuard;cases op<;>rfl,run_eql_map_nil w t k e none hd,Go.run_neq_map_nil w t k e none hd⟩
 case h_6 k e _=>
  obtain ⟨_,_,rfl⟩:=hx
  have hy:c=.map none:=hy
  cases h;subst hy
  exact ⟨by unfold eqGuard;cases op<;>rfl,run_eql_map_nil w t k e _ hd,Go.run_neq_map_nil w t k e _ hd⟩
 case h_7=>cases h
theorem GU (hT:dV P T) {op:BinOp} {p q:Operand} {x y z:EV} {a c:Value} (h:B6 T op t q x y=some z) (hx:bh φ x a) (hy:bh φ y c) :
  ∃v,(do eqGuard op t p q a c;binOp op t a c:Sem Value).run P w=.ok v w∧bh φ z v:=by
 unfold B6 at h
 split at h
 ·rename_i k a' k' b'
  have hx:a=.int k a':=hx
  have hy:c=.int k' b':=hy
  subst hx hy
  have hg:(eqGuard op t p q (.int k a') (.int k' b')).run P w=.ok () w:=by unfold eqGuard;cases op<;>rfl
  rw[Sem.run_bind,hg]
  split at h
  ·exact B7 (.inl rfl) h
  ·exact B7 (.inr rfl) h
  ·split at h
   ·rename_i e;subst e;exact GS h
   ·cases h
 ·rename_i a' b'
  have hx:a=.string a':=hx
  have hy:c=.string b':=hy
  subst hx hy
  rw[Sem.run_bind,ij]
  exact GT h
 ·rename_i a' b'
  have hx:a=.bool a':=hx
  have hy:c=.bool b':=hy
  subst hx hy
  rw[Sem.run_bind,kg]
  split at h
  ·rename_i hd
   cases h
   cases hi:T t with
   |none=>rw[hi] at hd;cases hd
   |some i=>
    rw[hi] at hd
    have hd2:=(hT t i hi).und
    simp only[Option.map_some,Option.some.injEq] at hd
    rw[hd] at hd2
    exact ⟨_,run_eql_bool w t a' b' hd2,rfl⟩
  ·rename_i hd
   cases h
   cases hi:T t with
   |none=>rw[hi] at hd;cases hd
   |some i=>
    rw[hi] at hd
    have hd2:=(hT t i hi).und
    simp only[Option.map_some,Option.some.injEq] at hd
    rw[hd] at hd2
    exact ⟨_,run_neq_bool w t a' b' hd2,rfl⟩
  ·cases h
 ·split at h
  ·rename_i i hi
   cases hn:ud i.d x y with
   |none=>rw[hn] at h;cases h
   |some b=>
    rw[hn] at h;cases h
    obtain ⟨h1,h2,_⟩:=xh (op:=.eql) (p:=p) (q:=q) (w:=w) hn (hT t i hi).und hx hy
    rw[Sem.run_bind,h1]
    exact ⟨_,h2,rfl⟩
  ·rename_i i hi
   cases hn:ud i.d x y with
   |none=>rw[hn] at h;cases h
   |some b=>
    rw[hn] at h;cases h
    obtain ⟨h1,_,h2⟩:=xh (op:=.neq) (p:=p) (q:=q) (w:=w) hn (hT t i hi).und hx hy
    rw[Sem.run_bind,h1]
    exact ⟨_,h2,rfl⟩
  ·cases h
theorem Jb {op:UnOp} {x z:EV} {a:Value} (h:Ja op x=some z) (hx:bh φ x a):∃v,(Op.unary op a).run P w=.ok v w∧bh φ z v:=by
 unfold Ja at h
 split at h
 ·have hx:a=.bool _:=hx
  cases h;subst hx;exact ⟨_,rfl,rfl⟩
 ·have hx:a=.int _ _:=hx
  cases h;subst hx;exact ⟨_,by simp[Op.unary,Op.intArith],rfl⟩
 ·cases h
end
noncomputable def rZ (T:TT) (H:Hp) (t b off:Nat):Option EV:=
 match T t,(H.get b).bind VO.cs? with
 |some i,some cs=>bif GP i.d then (bif Nat.ble (off+i.size) cs.length then some (.ag ((cs.drop off).take i.size)) else none) else cs[off]?
 |_,_=>none
noncomputable def eR (T:TT) (t:TypeId) (cs:List EV) (off:Nat):Option EV:=
 match T t with
 |some i=>bif GP i.d then some (.ag ((cs.drop off).take i.size)) else cs[off]?
 |none=>none
def vb (T:TT) (t f:Nat):Option Field:=
 match T t with
 |some i=>match i.d with
  |.struct fs=>fs[f]?
  |_=>none
 |none=>none
noncomputable def pE (T:TT) (t f b off:Nat):Option EV:=
 match vb T t f with
 |some fd=>match T fd.type with
  |some i=>bif Nat.beq i.size 0 then none else some (.p b (off+fd.offset))
  |none=>none
 |none=>none
noncomputable def pF (T:TT) (t f:Nat) (cs:List EV):Option EV:=
 match vb T t f with
 |some fd=>eR T fd.type cs fd.offset
 |none=>none
def lx (n:Int):Option Nat:=
 match n with
 |.ofNat j=>some j
 |_=>none
noncomputable def vd (T:TT) (t:Nat) (x:EV) (n:Int):Option EV:=
 match T t,lx n with
 |some i,some j=>match i.d,x with
  |.slice e,.sl b off len _ _=>match T e with
   |some ie=>bif Nat.blt j len then some (.p b (off+j*ie.size)) else none
   |none=>none
  |.array len e,.p b off=>match T e with
   |some ie=>bif Nat.blt j len then some (.p b (off+j*ie.size)) else none
   |none=>none
  |_,_=>none
 |_,_=>none
noncomputable def B8 (T:TT) (t:Nat) (x:EV) (n:Int):Option EV:=
 match T t,lx n with
 |some i,some j=>match i.d,x with
  |.string,.s s=>(s.data.toList[j]?).map fun c=>.i .u8 c.toNat
  |.array len e,.ag cs=>match T e with
   |some ie=>bif Nat.blt j len then eR T e cs (j*ie.size) else none
   |none=>none
  |_,_=>none
 |_,_=>none
section
variable {P:Program} {φ:dG} {w:World} {T:TT} {I:aT} {H:Hp} {nx:Nat} {F:List (Nat × Obj)} {E:World}
theorem ue (hT:dV P T) (hR:d4 I φ H nx F E w) {t b off:Nat} {z:EV} {a:Value} (h:rZ T H t b off=some z) (hx:bh φ (.p b off) a) :
  ∃v,(Instr.loadAt t a).run P w=.ok v w∧bh φ z v:=by
 obtain ⟨q,hq,rfl⟩:=hx
 unfold rZ at h
 split at h
 ·rename_i i cs hi hc
  obtain ⟨o,ho,hoc⟩:=Option.bind_eq_some_iff.1 hc
  have hTi:=hT t i hi
  obtain ⟨vs,h1,h2,h3⟩:=hR.read ho hoc hq
  cases hd:GP i.d with
  |true=>
   rw[hd] at h
   simp only[cond_true] at h
   cases hb:Nat.ble (off+i.size) cs.length with
   |false=>rw[hb] at h;cases h
   |true=>
    rw[hb] at h;cases h
    have hb:=Nat.le_of_ble_eq_true hb
    have hl:((vs.drop off).take i.size).length=i.size:=by rw[w6,List.length_drop,h1.length];omega
    refine ⟨.agg ((vs.drop off).take i.size).toArray,?_,_,Z,(h1.drop off).take i.size⟩
    have hrun:=gL (P:=P) (T:=t) (b:=q.r) (off:=q.sh+off) (cs:=(vs.drop off).take i.size) (w:=w) (fun w=>by rw[hTi.agg,hd]) (fun w=>by rw[hl];exact hTi.sz w) (fun j v hj=>by
     have hjl:=(List.getElem?_eq_some_iff.1 hj).1
     rw[hl] at hjl
     rw[List.getElem?_take_of_lt hjl,List.getElem?_drop] at hj
     rw[Nat.add_assoc];exact h3 _ _ hj)
    simp[Instr.loadAt,Instr.sureAddr,hrun]
  |false=>
   rw[hd] at h
   simp only[cond_false] at h
   obtain ⟨v,hv,hr⟩:=h1.get h
   refine ⟨v,?_,hr⟩
   have hrun:=oR (P:=P) (T:=t) (b:=q.r) (off:=q.sh+off) (v:=v) (w:=w) (fun w=>by rw[hTi.agg,hd]) (h3 _ _ hv)
   simp[Instr.loadAt,Instr.sureAddr,hrun]
 ·cases h
theorem gp (hT:dV P T) {t off:Nat} {cs:List EV} {vs:List Value} {z:EV} (h:eR T t cs off=some z) (hx:RelVs φ cs vs):∃v,(part t vs.toArray off).run P w=.ok v w∧bh φ z v:=by
 unfold eR at h
 split at h
 ·rename_i i hi
  have hTi:=hT t i hi
  cases hd:GP i.d with
  |true=>
   rw[hd] at h;cases h
   refine ⟨.agg ((vs.drop off).take i.size).toArray,?_,_,Z,(hx.drop off).take i.size⟩
   simp[part,hTi.agg,hd,hTi.sz]
  |false=>
   rw[hd] at h
   obtain ⟨v,hv,hr⟩:=hx.get h
   exact ⟨v,by simp[part,hTi.agg,hd,hv],hr⟩
 ·cases h
theorem uf (hT:dV P T) {t f:Nat} {fd:Field} (h:vb T t f=some fd):∃fs,P.underlying t=some (.struct fs)∧fs[f]?=some fd:=by
 unfold vb at h
 split at h
 ·rename_i i hi
  split at h
  ·rename_i fs hd
   exact ⟨fs,hd▸(hT t i hi).und,h⟩
  ·cases h
 ·cases h
theorem AR (hT:dV P T) {t f b off:Nat} {z:EV} {a:Value} (h:pE T t f b off=some z) (hx:bh φ (.p b off) a):∃v,(Instr.fieldAt t a f).run P w=.ok v w∧bh φ z v:=by
 obtain ⟨q,hq,rfl⟩:=hx
 unfold pE at h
 split at h
 ·rename_i fd hfd
  obtain ⟨fs,h1,h2⟩:=uf hT hfd
  split at h
  ·rename_i i hi
   have hTi:=hT _ i hi
   cases hz:Nat.beq i.size 0 with
   |true=>rw[hz] at h;cases h
   |false=>
    rw[hz] at h;cases h
    have hne:i.size≠0:=fun e=>by rw[e] at hz;cases hz
    refine ⟨.pointer (some ⟨q.r,q.sh+off+fd.offset,none⟩),?_,q,hq,by rw[Nat.add_assoc]⟩
    simp[Instr.fieldAt,run_underlying h1,h2,Instr.sureAddr,fieldPlace,hTi.sz,hne,bE]
  ·cases h
 ·cases h
theorem AU (hT:dV P T) {t f:Nat} {cs:List EV} {z:EV} {a:Value} (h:pF T t f cs=some z) (hx:bh φ (.ag cs) a):∃v,(Instr.field t a f).run P w=.ok v w∧bh φ z v:=by
 obtain ⟨vs,rfl,hx⟩:=hx
 unfold pF at h
 split at h
 ·rename_i fd hfd
  obtain ⟨fs,h1,h2⟩:=uf hT hfd
  obtain ⟨v,h3,h4⟩:=gp (w:=w) hT h hx
  refine ⟨v,?_,h4⟩
  simp[Instr.field,run_underlying h1,h2,asAgg,h3]
 ·cases h
theorem iL {n:Int} {j:Nat} (h:lx n=some j):n=(j:Int):=by
 unfold lx at h
 split at h
 ·cases h;rfl
 ·cases h
theorem Eo (hT:dV P T) {t:Nat} {x:EV} {k:IntKind} {n:Int} {z:EV} {a c:Value} (h:vd T t x n=some z) (hx:bh φ x a) (hy:bh φ (.i k n) c):∃v,(Instr.indexAt t a c).run P w=.ok v w∧bh φ z v:=by
 have hy:c=.int k n:=hy
 subst hy
 unfold vd at h
 split at h
 ·rename_i i j hi hj
  have hj:=iL hj
  subst hj
  have hTi:=hT t i hi
  split at h
  ·rename_i e b off len _ _ hd
   have hu:=hd▸hTi.und
   obtain ⟨q,o,cap,hq,rfl,h1,h2,_⟩:=hx
   split at h
   ·rename_i ie hie
    have hTe:=hT e ie hie
    cases hb:Nat.blt j len with
    |false=>rw[hb] at h;cases h
    |true=>
     rw[hb] at h;cases h
     have hb:j<len:=Nat.le_of_ble_eq_true hb
     have ho:=h2 (by omega)
     subst ho
     refine ⟨.pointer (some ⟨q.r,q.sh+off+j*ie.size,none⟩),?_,q,hq,by rw[Nat.add_assoc]⟩
     simp[Instr.indexAt,asIntOf,run_underlying hu,hTe.sz,hb,bE]
   ·cases h
  ·rename_i len e b off hd
   have hu:=hd▸hTi.und
   obtain ⟨q,hq,rfl⟩:=hx
   split at h
   ·rename_i ie hie
    have hTe:=hT e ie hie
    cases hb:Nat.blt j len with
    |false=>rw[hb] at h;cases h
    |true=>
     rw[hb] at h;cases h
     have hb:j<len:=Nat.le_of_ble_eq_true hb
     refine ⟨.pointer (some ⟨q.r,q.sh+off+j*ie.size,none⟩),?_,q,hq,by rw[Nat.add_assoc]⟩
     by_cases h1:len≤1
     ·simp[Instr.indexAt,asIntOf,run_underlying hu,hTe.sz,hb,bE,Instr.sureAddr,h1]
     ·simp[Instr.indexAt,asIntOf,run_underlying hu,hTe.sz,hb,bE,Instr.sureAddr,h1]
   ·cases h
  ·cases h
 ·cases h
theorem GV (hT:dV P T) {t:Nat} {x:EV} {k:IntKind} {n:Int} {z:EV} {a c:Value} (h:B8 T t x n=some z) (hx:bh φ x a) (hy:bh φ (.i k n) c):∃v,(Instr.index t a c).run P w=.ok v w∧bh φ z v:=by
 have hy:c=.int k n:=hy
 subst hy
 unfold B8 at h
 split at h
 ·rename_i i j hi hj
  have hj:=iL hj
  subst hj
  have hTi:=hT t i hi
  split at h
  ·rename_i s hd
   have hu:=hd▸hTi.und
   have hx:a=.string s:=hx
   subst hx
   obtain ⟨c,hc,rfl⟩:=Option.map_eq_some_iff.1 h
   have hv:s.data[j]?=some c:=by rw[←hc];simp
   have hj:s[j]?=some c:=by
    obtain ⟨h1,h2⟩:=Array.getElem?_eq_some_iff.1 hv
    show (if h:j<s.size then some s[j] else none)=some c
    rw[dif_pos (show j<s.size from h1)];exact congrArg some h2
   exact ⟨.int .u8 c.toNat,by simp[Instr.index,asIntOf,run_underlying hu,hj],rfl⟩
  ·rename_i len e cs hd
   have hu:=hd▸hTi.und
   obtain ⟨vs,rfl,hx⟩:=hx
   split at h
   ·rename_i ie hie
    have hTe:=hT e ie hie
    cases hb:Nat.blt j len with
    |false=>rw[hb] at h;cases h
    |true=>
     rw[hb] at h
     have hb:j<len:=Nat.le_of_ble_eq_true hb
     obtain ⟨v,h3,h4⟩:=gp (w:=w) hT h hx
     refine ⟨v,?_,h4⟩
     simp[Instr.index,asIntOf,run_underlying hu,hb,hTe.sz,h3]
   ·cases h
  ·cases h
 ·cases h
end
end
section
open Go.Proofs.Tryz
def AW:Option Value→Option Nat→Prop
 |none,none=>True
 |some v,some n=>∃k,v=.int k (n:Int)
 |_,_=>False
theorem fQ {P:Program} {w:World} {k:IntKind} {n y:Nat} {c:BoundsCode} (h:n≤y):(Instr.sliceBound (.int k (n:Int)) y c).run P w=.ok n w:=by
 have:(0:Int)≤(n:Int)∧(n:Int)≤(y:Int):=by omega
 simp[Instr.sliceBound,asIntOf,this]
theorem lW {P:Program} {w:World} {s:Bool} {len cap:Nat} {lo hi mx:Option Value} {lo' hi' mx':Option Nat} (h1:AW lo lo') (h2:AW hi hi') (h3:AW mx mx') (hm:mx'.isSome=true→hi'.isSome=true)
  (c1:mx'.getD cap≤cap) (c2:hi'.getD len≤mx'.getD cap) (c3:lo'.getD 0≤hi'.getD len):(Instr.sliceBounds s len cap lo hi mx).run P w=.ok (lo'.getD 0,hi'.getD len,mx'.getD cap) w:=by
 cases mx with
 |some m=>
  cases mx' with
  |none=>exact h3.elim
  |some m'=>
   cases hi' with
   |none=>simp at hm
   |some g=>
    cases hi with
    |none=>exact h2.elim
    |some hv=>
     obtain ⟨k1,rfl⟩:=h3
     obtain ⟨k2,rfl⟩:=h2
     simp only[Option.getD_some] at c1 c2 c3 ⊢
     cases lo with
     |none=>
      cases lo' with
      |none=>simp only[Instr.sliceBounds,Sem.run_bind,fQ c1,Result.andThen_ok,fQ c2];simp
      |some _=>exact h1.elim
     |some l=>
      cases lo' with
      |none=>exact h1.elim
      |some l'=>
       obtain ⟨k3,rfl⟩:=h1
       simp only[Option.getD_some] at c3 ⊢
       simp only[Instr.sliceBounds,Sem.run_bind,fQ c1,Result.andThen_ok,fQ c2,fQ c3];simp
 |none=>
  cases mx' with
  |some _=>exact h3.elim
  |none=>
   simp only[Option.getD_none] at c1 c2 ⊢
   cases hi with
   |none=>
    cases hi' with
    |some _=>exact h2.elim
    |none=>
     simp only[Option.getD_none] at c2 c3 ⊢
     cases lo with
     |none=>
      cases lo' with
      |none=>simp[Instr.sliceBounds]
      |some _=>exact h1.elim
     |some l=>
      cases lo' with
      |none=>exact h1.elim
      |some l'=>
       obtain ⟨k3,rfl⟩:=h1
       simp only[Option.getD_some] at c3 ⊢
       simp[Instr.sliceBounds,fQ c3]
   |some hv=>
    cases hi' with
    |none=>exact h2.elim
    |some g=>
     obtain ⟨k2,rfl⟩:=h2
     simp only[Option.getD_some] at c2 c3 ⊢
     cases lo with
     |none=>
      cases lo' with
      |none=>simp[Instr.sliceBounds,fQ c2]
      |some _=>exact h1.elim
     |some l=>
      cases lo' with
      |none=>exact h1.elim
      |some l'=>
       obtain ⟨k3,rfl⟩:=h1
       simp only[Option.getD_some] at c3 ⊢
       simp[Instr.sliceBounds,fQ c2,fQ c3]
theorem ve (s:ByteArray) (l h:Nat):s.extract l h=⟨((s.data.toList.drop l).take (h - l)).toArray⟩:=by
 have e:(s.extract l h).data=s.data.extract l h:=ByteArray.data_extract
 cases hx:s.extract l h with
 |mk d=>
  rw[hx] at e
  simp only at e
  rw[e];congr 1
  apply Array.toList_inj.1
  simp[List.extract_eq_take_drop]
def JV (k k' l:Nat) (mx:Option Nat) (c:Cp):Cp:=
 match mx,c with
 |some m,_=>.ex (m - l)
 |none,.ex m=>.ex (m - l)
 |none,.en=>bif Nat.beq k k' then .en else .un
 |none,.un=>.un
def r3 (len n:Nat):Cp→Bool
 |.ex m=>Nat.ble n m
 |_=>Nat.ble n len
noncomputable def Jc (T:TT) (t:Nat) (x:EV) (lo hi mx:Option Nat):Option EV:=
 match T t with
 |some i=>match i.d,x with
  |.string,.s s=>match mx with
   |some _=>none
   |none=>bif Nat.ble (hi.getD s.data.toList.length) s.data.toList.length&&Nat.ble (lo.getD 0) (hi.getD s.data.toList.length) then some (.s ⟨((s.data.toList.drop (lo.getD 0)).take (hi.getD s.data.toList.length - lo.getD 0)).toArray⟩) else none
  |.slice e,.sl b off len k c=>match T e with
   |some ie=>bif (!mx.isSome||hi.isSome)&&(r3 len (hi.getD len) c&&(mx.elim true (fun m=>r3 len m c&&Nat.ble (hi.getD len) m)&&Nat.ble (lo.getD 0) (hi.getD len))) then
     some (.sl b (off+lo.getD 0*ie.size) (hi.getD len - lo.getD 0) k (JV k ie.size (lo.getD 0) mx c)) else none
   |none=>none
  |.slice e,.ns=>match T e,mx with
   |some _,none=>bif Nat.beq (hi.getD 0) 0&&Nat.beq (lo.getD 0) 0 then some .ns else none
   |_,_=>none
  |.array n e,.p b off=>match T e,mx with
   |some ie,none=>bif Nat.ble (hi.getD n) n&&Nat.ble (lo.getD 0) (hi.getD n) then some (.sl b (off+lo.getD 0*ie.size) (hi.getD n - lo.getD 0) ie.size (.ex (n - lo.getD 0))) else none
   |_,_=>none
  |_,_=>none
 |none=>none
section
variable {P:Program} {φ:dG} {w:World} {T:TT} {I:aT} {H:Hp} {nx:Nat} {F:List (Nat × Obj)} {E:World}
theorem ug {q:EK} {off k len n cap:Nat} {c:Cp} (h:r3 len n c=true) (hl:len≤cap) (hc:Ml q off k c cap):n≤cap:=by
 cases c with
 |ex m=>
  have hc:cap=m:=hc
  have:=Nat.le_of_ble_eq_true h
  omega
 |en=>have:=Nat.le_of_ble_eq_true h;omega
 |un=>have:=Nat.le_of_ble_eq_true h;omega
theorem Jd (hT:dV P T) {t:Nat} {x z:EV} {a:Value} {lo hi mx:Option Value} {lo' hi' mx':Option Nat} (h:Jc T t x lo' hi' mx'=some z) (hx:bh φ x a) (h1:AW lo lo') (h2:AW hi hi') (h3:AW mx mx') :
  ∃v,(Instr.sliceAt t a lo hi mx).run P w=.ok v w∧bh φ z v:=by
 unfold Jc at h
 split at h
 ·rename_i i hi0
  have hTi:=hT t i hi0
  split at h
  ·rename_i s hd
   have hu:=hd▸hTi.und
   have hx:a=.string s:=hx
   subst hx
   split at h
   ·cases h
   ·have hm:mx=none:=by cases mx with
     |none=>rfl
     |some _=>exact h3.elim
    subst hm
    cases hb:(Nat.ble (hi'.getD s.data.toList.length) s.data.toList.length&&Nat.ble (lo'.getD 0) (hi'.getD s.data.toList.length)) with
    |false=>rw[hb] at h;cases h
    |true=>
     rw[hb] at h;cases h
     simp only[w9] at hb
     have b1:=Nat.le_of_ble_eq_true hb.1
     have b2:=Nat.le_of_ble_eq_true hb.2
     have es:s.size=s.data.toList.length:=by rw[Array.length_toList];rfl
     have hbd:=lW (P:=P) (w:=w) (s:=false) (len:=s.size) (cap:=s.size) h1 h2 (mx':=none) (mx:=none) trivial (by simp) (Nat.le_refl _) (by rw[es];exact b1) (by rw[es];exact b2)
     refine ⟨.string (s.extract (lo'.getD 0) (hi'.getD s.size)),?_,by rw[ve,es];rfl⟩
     simp only[Instr.sliceAt,Sem.run_bind,run_underlying hu,Result.andThen_ok,Instr.slice,Option.isSome_none,hbd]
     simp[hbd]
  ·rename_i e b off len k c hd
   have hu:=hd▸hTi.und
   obtain ⟨q,o,cap,hq,rfl,g1,g2,g3⟩:=hx
   split at h
   ·rename_i ie hie
    have hTe:=hT e ie hie
    cases hb:((!mx'.isSome||hi'.isSome)&&(r3 len (hi'.getD len) c&&(mx'.elim true (fun m=>r3 len m c&&Nat.ble (hi'.getD len) m)&&Nat.ble (lo'.getD 0) (hi'.getD len)))) with
    |false=>rw[hb] at h;cases h
    |true=>
     rw[hb] at h;cases h
     simp only[w9] at hb
     obtain ⟨b0,b1,b2,b3⟩:=hb
     have b1:=ug b1 g1 g3
     have b3:=Nat.le_of_ble_eq_true b3
     have hm:mx'.getD cap≤cap∧hi'.getD len≤mx'.getD cap∧(mx'.isSome=true→hi'.isSome=true):=by
      cases mx' with
      |none=>exact ⟨Nat.le_refl _,b1,fun h=>by cases h⟩
      |some m=>
       simp only[Option.elim_some,w9] at b2
       exact ⟨ug b2.1 g1 g3,Nat.le_of_ble_eq_true b2.2,fun _=>by simpa using b0⟩
     have hbd:=lW (P:=P) (w:=w) (s:=true) (len:=len) (cap:=cap) h1 h2 h3 hm.2.2 hm.1 hm.2.1 b3
     refine ⟨.slice (if mx'.getD cap=lo'.getD 0 then some ⟨q.r,o,none⟩ else (some ⟨q.r,o,none⟩:Option Addr).map (·.add (lo'.getD 0*ie.size))) (hi'.getD len - lo'.getD 0) (mx'.getD cap - lo'.getD 0),?_,q,?_⟩
     ·simp only[Instr.sliceAt,Sem.run_bind,run_underlying hu,Result.andThen_ok,Instr.slice,hbd,hTe.sz]
      simp
     ·refine ⟨if mx'.getD cap=lo'.getD 0 then o else o+lo'.getD 0*ie.size,mx'.getD cap - lo'.getD 0,hq,?_,by omega,fun hne=>?_,?_⟩
      ·split
       ·rfl
       ·simp[bE]
      ·rw[if_neg (by omega),g2 (by omega),Nat.add_assoc]
      ·cases mx' with
       |some m=>exact rfl
       |none=>
        simp only[Option.getD_none]
        cases c with
        |ex m=>exact congrArg (·- lo'.getD 0) (show cap=m from g3)
        |en=>
         unfold JV
         cases hk:Nat.beq k ie.size with
         |false=>trivial
         |true=>
          have hk:=Nat.eq_of_beq_eq_true hk
          subst hk
          have g3:q.sh+off+cap*ie.size=q.κ:=g3
          show q.sh+(off+lo'.getD 0*ie.size)+(cap - lo'.getD 0)*ie.size=q.κ
          have hle:lo'.getD 0≤cap:=by omega
          have:lo'.getD 0*ie.size+(cap - lo'.getD 0)*ie.size=cap*ie.size:=by rw[←Nat.add_mul];congr 1;omega
          omega
        |un=>trivial
   ·cases h
  ·rename_i e hd
   have hu:=hd▸hTi.und
   have hx:a=.slice none 0 0:=hx
   subst hx
   split at h
   ·rename_i ie hie
    have hTe:=hT e ie hie
    cases hb:(Nat.beq (hi'.getD 0) 0&&Nat.beq (lo'.getD 0) 0) with
    |false=>rw[hb] at h;cases h
    |true=>
     rw[hb] at h;cases h
     simp only[w9] at hb
     have b1:=Nat.eq_of_beq_eq_true hb.1
     have b2:=Nat.eq_of_beq_eq_true hb.2
     have hm:mx=none:=by cases mx with
      |none=>rfl
      |some _=>exact h3.elim
     subst hm
     have hbd:=lW (P:=P) (w:=w) (s:=true) (len:=0) (cap:=0) h1 h2 (mx':=none) (mx:=none) trivial (by simp) (Nat.le_refl _) (by rw[b1];exact Nat.le_refl _) (by rw[b2];exact qt _)
     refine ⟨.slice none 0 0,?_,Z⟩
     simp only[Instr.sliceAt,Sem.run_bind,run_underlying hu,Result.andThen_ok,Instr.slice,hbd,hTe.sz]
     rw[b1,b2];simp
   ·cases h
  ·rename_i n e b off hd
   have hu:=hd▸hTi.und
   obtain ⟨q,hq,rfl⟩:=hx
   split at h
   ·rename_i ie hie
    have hTe:=hT e ie hie
    cases hb:(Nat.ble (hi'.getD n) n&&Nat.ble (lo'.getD 0) (hi'.getD n)) with
    |false=>rw[hb] at h;cases h
    |true=>
     rw[hb] at h;cases h
     simp only[w9] at hb
     have b1:=Nat.le_of_ble_eq_true hb.1
     have b2:=Nat.le_of_ble_eq_true hb.2
     have hm:mx=none:=by cases mx with
      |none=>rfl
      |some _=>exact h3.elim
     subst hm
     have hbd:=lW (P:=P) (w:=w) (s:=false) (len:=n) (cap:=n) h1 h2 (mx':=none) (mx:=none) trivial (by simp) (Nat.le_refl _) b1 b2
     simp only[Option.getD_none] at hbd
     refine ⟨.slice (some (if n=lo'.getD 0 then ⟨q.r,q.sh+off,none⟩ else (⟨q.r,q.sh+off,none⟩:Addr).add (lo'.getD 0*ie.size))) (hi'.getD n - lo'.getD 0) (n - lo'.getD 0),?_,q,if n=lo'.getD 0 then q.sh+off else q.sh+off+lo'.getD 0*ie.size,n - lo'.getD 0,hq,?_,by omega,fun hne=>?_,rfl⟩
     ·simp[Instr.sliceAt,run_underlying hu,Instr.sureAddr,hbd,hTe.sz]
     ·split
      ·rfl
      ·simp[bE]
     ·rw[if_neg (by omega),Nat.add_assoc]
   ·cases h
  ·cases h
 ·cases h
end
def r4 (place:Nat→Option (Nat × Nat)):List EV→List (Nat × EV)→Option (List EV)
 |cells,[]=>some cells
 |cells,(i,x)::rest=>
  match place i with
  |none=>none
  |some (off,size)=>bif x.sto&&(Nat.beq x.cs.length size&&Nat.ble (off+size) cells.length) then r4 place (cells.take off++(x.cs++cells.drop (off+size))) rest else none
theorem nD {φ:dG} {place:Nat→Option (Nat × Nat)}:∀(l:List (Nat × Value)) (cps:List (Nat × EV)) (cells:List EV) (vcells:Array Value) (rs:List EV),
  cps.map (·.1)=l.map (·.1)→RelVs φ (cps.map (·.2)) (l.map (·.2))→RelVs φ cells vcells.toList→r4 place cells cps=some rs →
  ∃vc,Instr.fill place vcells l=some vc∧RelVs φ rs vc.toList
 |[],[],cells,vcells,rs,_,_,h,hf=>⟨vcells,rfl,by cases hf;exact h⟩
 |[],_::_,_,_,_,h,_,_,_=>by cases h
 |_::_,[],_,_,_,h,_,_,_=>by cases h
 |(i,v)::l,(i',x)::cps,cells,vcells,rs,hk,hp,h,hf=>by
  simp only[List.map_cons,List.cons.injEq] at hk
  obtain ⟨rfl,hk⟩:=hk
  obtain ⟨v',us,e,hx,hp⟩:=hp
  cases e
  unfold r4 at hf
  unfold Instr.fill
  cases hpl:place i' with
  |none=>rw[hpl] at hf;cases hf
  |some os=>
   obtain ⟨off,size⟩:=os
   rw[hpl] at hf
   simp only at hf ⊢
   cases hb:(x.sto&&(Nat.beq x.cs.length size&&Nat.ble (off+size) cells.length)) with
   |false=>rw[hb] at hf;cases hf
   |true=>
    rw[hb] at hf
    simp only[cond_true] at hf
    simp only[w9] at hb
    have hx:=EV.cs_rel hx hb.1
    have hxl:=hx.length
    have hcl:=h.length
    simp only[Array.length_toList] at hxl hcl
    have e1:=Nat.eq_of_beq_eq_true hb.2.1
    have e2:=Nat.le_of_ble_eq_true hb.2.2
    rw[if_neg (show ¬((v.cells.size≠size||off+v.cells.size>vcells.size)=true) by simp;omega)]
    have hfold:=th off v.cells.toList 0 vcells (by simp;omega)
    simp only[Nat.add_zero] at hfold
    have hfa:(v.cells.zipIdx.foldl (fun cs (x:Value × Nat)=>cs.setIfInBounds (off+x.2) x.1) vcells).toList=vcells.toList.take off++v.cells.toList++vcells.toList.drop (off+size):=by
     rw[←Array.foldl_toList]
     have:v.cells.zipIdx.toList=v.cells.toList.zipIdx 0:=by simp
     have hlen:v.cells.toList.length=size:=by rw[Array.length_toList];omega
     rw[this,hfold,hlen]
    refine nD l cps _ _ rs hk hp ?_ hf
    rw[hfa,qs]
    exact (h.take off).append (hx.append (h.drop _))
def pG (T:TT):List Field→Option (List (Nat × Nat))
 |[]=>some []
 |f::fs=>match T f.type,pG T fs with
  |some i,some l=>some ((f.offset,i.size)::l)
  |_,_=>none
theorem r5 {P:Program} {T:TT} {w:World} (hT:dV P T):∀(fs:List Field) (l:List (Nat × Nat)),pG T fs=some l→(fs.mapM (m:=Sem) fun f=>do pure (f.offset,←sizeOf f.type)).run P w=.ok l w
 |[],l,h=>by cases h;rfl
 |f::fs,l,h=>by
  unfold pG at h
  split at h
  ·rename_i i l' hi hl'
   cases h
   have h2:=r5 (w:=w) hT fs l' hl'
   rw[List.mapM_cons]
   simp only[Sem.run_bind,(hT _ _ hi).sz,Result.andThen_ok,Sem.run_pure,h2]
  ·cases h
noncomputable def pH (T:TT) (t:Nat) (ks:List Nat) (vs:List EV):Option EV:=
 match T t with
 |some i=>match i.d with
  |.struct fs=>match pG T fs.toList with
   |some pl=>(r4 (fun k=>pl[k]?) i.z (ks.zip vs)).map EV.ag
   |none=>none
  |.array _ e=>match T e with
   |some ie=>(r4 (fun k=>some (k*ie.size,ie.size)) i.z (ks.zip vs)).map EV.ag
   |none=>none
  |_=>none
 |none=>none
theorem pI {α β:Type}:∀(a:List α) (b:List β),a.length=b.length→(a.zip b).map (·.1)=a
 |[],_,_=>rfl
 |_::_,[],h=>by simp at h
 |x::a,y::b,h=>by rw[List.zip_cons_cons,List.map_cons,pI a b (by simpa using h)]
theorem pJ {α β:Type}:∀(a:List α) (b:List β),a.length=b.length→(a.zip b).map (·.2)=b
 |[],[],_=>rfl
 |[],_::_,h=>by simp at h
 |_::_,[],_=>rfl
 |x::a,y::b,h=>by rw[List.zip_cons_cons,List.map_cons,pJ a b (by simpa using h)]
theorem AX {P:Program} {φ:dG} {w:World} {T:TT} (hT:dV P T) {t:Nat} {parts:List (Nat × Value)} {vs:List EV} {z:EV} (h:pH T t (parts.map (·.1)) vs=some z) (hv:RelVs φ vs (parts.map (·.2))) :
  ∃v,(Instr.build t parts.toArray).run P w=.ok v w∧bh φ z v:=by
 have hl:(parts.map (·.1)).length=vs.length:=by have:=hv.length;simp at this ⊢;exact this
 unfold pH at h
 split at h
 ·rename_i i hi
  have hTi:=hT t i hi
  obtain ⟨zv,hz,hzr,_⟩:=hTi.zero
  split at h
  ·rename_i fs hd
   have hu:=hd▸hTi.und
   split at h
   ·rename_i pl hpl
    obtain ⟨rs,hrs,rfl⟩:=Option.map_eq_some_iff.1 h
    obtain ⟨vc,h1,h2⟩:=nD (place:=fun k=>pl[k]?) parts _ i.z zv.cells rs (pI _ _ hl) (by rw[pJ _ _ hl];exact hv) (hzr φ) hrs
    refine ⟨.agg vc,?_,vc.toList,by simp,h2⟩
    have hp:=r5 (w:=w) hT fs.toList pl hpl
    have hp2:(fs.mapM (m:=Sem) fun f=>do pure (f.offset,←sizeOf f.type)).run P w=.ok pl.toArray w:=by
     rw[Array.mapM_eq_mapM_toList,Sem.run_map,hp];rfl
    unfold Instr.build
    simp only[Sem.run_bind,hz,Result.andThen_ok,run_underlying hu,hp2]
    have h1:Instr.fill (fun x=>pl.toArray[x]?) zv.cells parts=some vc:=by simpa using h1
    rw[h1];rfl
   ·cases h
  ·rename_i n e hd
   have hu:=hd▸hTi.und
   split at h
   ·rename_i ie hie
    obtain ⟨rs,hrs,rfl⟩:=Option.map_eq_some_iff.1 h
    obtain ⟨vc,h1,h2⟩:=nD (place:=fun k=>some (k*ie.size,ie.size)) parts _ i.z zv.cells rs (pI _ _ hl) (by rw[pJ _ _ hl];exact hv) (hzr φ) hrs
    refine ⟨.agg vc,?_,vc.toList,by simp,h2⟩
    unfold Instr.build
    simp only[Sem.run_bind,hz,Result.andThen_ok,run_underlying hu,(hT e ie hie).sz,h1]
    rfl
   ·cases h
  ·cases h
 ·cases h
def xi:TypeDesc→Bool
 |.interface _=>false
 |_=>true
noncomputable def B9 (T:TT) (t:Nat) (x:EV):Option EV:=
 match T t with
 |some i=>bif xi i.d then some (.ifc t x) else none
 |none=>none
noncomputable def vf (T:TT) (s d:Nat) (x:EV):Option EV:=
 match T s,T d,x with
 |some is_,some id_,.i _ n=>match is_.d,id_.d with
  |.int _,.int k=>some (.i k (k.wrap n))
  |_,_=>none
 |some is_,some id_,.s b=>match is_.d,id_.d with
  |.string,.string=>some (.s b)
  |_,_=>none
 |_,_,_=>none
noncomputable def Ca (T:TT) (t:Nat) (x:EV):Option EV:=
 match T t,x with
 |some i,x=>match i.d,x with
  |.string,.s b=>some (.i .i64 b.data.toList.length)
  |.slice _,.sl _ _ n _ _=>some (.i .i64 n)
  |.slice _,.ns=>some (.i .i64 0)
  |_,_=>none
 |_,_=>none
noncomputable def Cb (T:TT) (t:Nat) (x:EV):Option EV:=
 match T t,x with
 |some i,x=>match i.d,x with
  |.slice _,.sl _ _ _ _ (.ex m)=>some (.i .i64 m)
  |.slice _,.ns=>some (.i .i64 0)
  |_,_=>none
 |_,_=>none
section
variable {P:Program} {φ:dG} {w:World} {T:TT} {ty:TypeId}
theorem GW (hT:dV P T) {t:Nat} {x z:EV} {a:Value} (h:B9 T t x=some z) (hx:bh φ x a):∃v,(Instr.makeInterface t a).run P w=.ok v w∧bh φ z v:=by
 unfold B9 at h
 split at h
 ·rename_i i hi
  have hu:=(hT t i hi).und
  cases hd:xi i.d with
  |false=>rw[hd] at h;cases h
  |true=>
   rw[hd] at h;cases h
   refine ⟨.iface t a,?_,a,Z,hx⟩
   unfold Instr.makeInterface
   rw[Sem.run_bind,run_underlying hu]
   revert hd
   cases i.d<;>intro hd<;>first|rfl|cases hd
 ·cases h
theorem Ep (hT:dV P T) {s d:Nat} {x z:EV} {a:Value} (h:vf T s d x=some z) (hx:bh φ x a):∃v,(convert s d a).run P w=.ok v w∧bh φ z v:=by
 unfold vf at h
 split at h
 ·rename_i i1 i2 k n h1 h2
  have hx:a=.int k n:=hx
  subst hx
  split at h
  ·rename_i k1 k2 e1 e2
   cases h
   have u1:=e1▸(hT s i1 h1).und
   have u2:=e2▸(hT d i2 h2).und
   exact ⟨_,by simp[convert,run_underlying u1,run_underlying u2,Conv.intToInt],rfl⟩
  ·cases h
 ·rename_i i1 i2 b h1 h2
  have hx:a=.string b:=hx
  subst hx
  split at h
  ·rename_i e1 e2
   cases h
   have u1:=e1▸(hT s i1 h1).und
   have u2:=e2▸(hT d i2 h2).und
   exact ⟨_,by simp[convert,run_underlying u1,run_underlying u2],rfl⟩
  ·cases h
 ·cases h
theorem GX (hT:dV P T) {t:Nat} {x z:EV} {a:Value} (h:Ca T t x=some z) (hx:bh φ x a):∃v,(Builtin.len_ #[t] ty #[a]).run P w=.ok v w∧bh φ z v:=by
 unfold Ca at h
 split at h
 ·rename_i i hi
  have hu:=(hT t i hi).und
  split at h
  ·rename_i b hd
   have hx:a=.string b:=hx
   cases h;subst hx
   rw[hd] at hu
   exact ⟨.int .i64 b.size,by simp[Builtin.len_,run_underlying hu,goInt],by show Value.int .i64 _=Value.int .i64 _;rw[Array.length_toList];rfl⟩
  ·rename_i e _ _ n _ _ hd
   obtain ⟨_,_,_,_,rfl,_⟩:=hx
   cases h
   rw[hd] at hu
   exact ⟨.int .i64 n,by simp[Builtin.len_,run_underlying hu,goInt],rfl⟩
  ·rename_i e hd
   have hx:a=.slice none 0 0:=hx
   cases h;subst hx
   rw[hd] at hu
   exact ⟨.int .i64 0,by simp[Builtin.len_,run_underlying hu,goInt],rfl⟩
  ·cases h
 ·cases h
theorem GY (hT:dV P T) {t:Nat} {x z:EV} {a:Value} (h:Cb T t x=some z) (hx:bh φ x a):∃v,(Builtin.cap_ #[t] ty #[a]).run P w=.ok v w∧bh φ z v:=by
 unfold Cb at h
 split at h
 ·rename_i i hi
  have hu:=(hT t i hi).und
  split at h
  ·rename_i e _ _ n _ m hd
   obtain ⟨_,_,cap,_,rfl,_,_,hc⟩:=hx
   have hc:cap=m:=hc
   cases h;subst hc
   rw[hd] at hu
   exact ⟨.int .i64 cap,by simp[Builtin.cap_,run_underlying hu,goInt],rfl⟩
  ·rename_i e hd
   have hx:a=.slice none 0 0:=hx
   cases h;subst hx
   rw[hd] at hu
   exact ⟨.int .i64 0,by simp[Builtin.cap_,run_underlying hu,goInt],rfl⟩
  ·cases h
 ·cases h
end
set_option linter.defProp false
def q2:=@dG.put_same
def qj:=@d4.close
def ql:=@dG.le_put
end
end Go.Proofs.YtbanfokidalbaaaGreatDoor
