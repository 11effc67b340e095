/- The tree of what is above what: made, and asked. Of programs that are little. -/
import Derived.Test.YthphijnnbfjikaaGreatDoorJk
import Derived.Test.YthphijnnbfjikaaGreatDoorJi
import Derived.LaidEqlPtr
set_option linter.unusedVariables false
set_option linter.unusedSimpArgs false
set_option linter.unusedSectionVars false
namespace Go.Proofs.YthphijnnbfjikaaGreatDoor
section
open Go.Proofs.Tryz
open Go.Proofs
variable {E:World}
set_option maxRecDepth 20000
theorem Ac {S:Int→List Int} {V nr al:List Int} {n K i j:Nat} {T T':TypeId} (hV:oT S (gi al) V) (hN:gn S (gi al) V (gi nr)) (hK:∀a b,a∈V→b∈V→gi al a+gi al b<K) (hK0:0<K) (hnl:nr.length=n) (hal:al.length=n) (hlt:∀b∈V,b<n) {a b:Int} (ha:gi nr a≠-1) (hb:gi nr b≠-1) :
  aU prog E 66 [.agg [.own i n,.own j n],.int .i64 a,.int .i64 b] [(j,.grow 1 T' (cI al)),(i,.grow 1 T (cI nr))]
   fun r O=>r=.int .i64 (cM (gi nr) (gi al) K a b)∧O=[(j,.grow 1 T' (cI al)),(i,.grow 1 T (cI nr))]:=by
 have hget:∀x,gi nr x≠-1→0≤x∧x.toNat<n:=fun x hx=>by
  have hm:=hN.mem x hx
  have:=hV.nn x hm
  have:=hlt x hm
  omega
 have hNl:∀x,gi nr x≠-1→nr[x.toNat]?=some (gi nr x):=fun x hx=>eU (hget x hx).1 (by rw[hnl];exact (hget x hx).2)
 have hAl:∀x,gi nr x≠-1→al[x.toNat]?=some (gi al x):=fun x hx=>eU (hget x hx).1 (by rw[hal];exact (hget x hx).2)
 have hpos:∀x,gi nr x≠-1→0≤gi al x:=fun x hx=>(hV.pos x).1 (hN.mem x hx)
 refine zk func66 Z (by decide) Z<|ae<|yi (cs:=_) Z Z Z Z<|fun i3=>aq Z<|z6<|ze<|zj<|ya (γ:=Int × Int) [3] (fun g=>[(1,.int .i64 g.1),(2,.int .i64 g.2)]) (fun g=>[(i3,.cells 133 [.own i n,.own j n]),(j,.grow 1 T' (cI al)),(i,.grow 1 T (cI nr))]) (fun g=>gi nr g.1≠-1∧gi nr g.2≠-1∧cM (gi nr) (gi al) K g.1 g.2=cM (gi nr) (gi al) K a b) (fun g=>(gi al g.1+gi al g.2).toNat) (a,b) cU aJ (⟨ha,hb,Z⟩) ?_
 rintro ⟨x,y⟩ ⟨hx,hy,hm⟩
 try dsimp only at *
 refine ze<|ae<|aa Z<|aa Z<|z7 (yw Z Z)<|z6<|zz Z (fun cxy=>?_) (fun cxy=>?_)
 ·have hxy:x≠y:=by simpa using cxy
  refine zi<|zj<|ze<|zj<|ya (γ:=Int) [2,3] (fun u=>[(1,.int .i64 u)]) (fun u=>[(i3,.cells 133 [.own i n,.own j n]),(j,.grow 1 T' (cI al)),(i,.grow 1 T (cI nr))]) (fun u=>gi nr u≠-1∧cM (gi nr) (gi al) K u y=cM (gi nr) (gi al) K a b∧(u=x∨gi al u<gi al x)) (fun u=>(gi al u).toNat) x aT aJ (⟨hx,hm,.inl Z⟩) ?_
  rintro u ⟨hu,hmu,hux⟩
  refine ze<|ze<|zw (fun j=>false) (by kernel_rfl) Z (zn (.r (.r (.r (.rest _)))))<|ao 0 Z (y0 Z9 Z jr (by decide) Z Z)<|ao 1 Z (yd (c:=.own _ _) jv Z ⟨_,.head⟩ Z)<|ao 2 Z (fC Z)<|ao 3 Z (yy (j:=u.toNat) jh jm Z Z (by have:=hget u hu;omega) ⟨_,.t1⟩ (by first|rfl|(simp[aV,aX];done)|(simp[aV,aX];omega)) (hget u hu).2)<|ao 4 Z (q5 (j:=u.toNat) jq Z ⟨_,.t1⟩ (hAl u hu))<|ao 5 Z (y0 Z9 Z jr (by decide) Z Z)<|ao 6 Z (yd (c:=.own _ _) jv Z ⟨_,.head⟩ Z)<|ao 7 Z (fC Z)<|ao 8 Z (yy (j:=y.toNat) jh jm Z Z (by have:=hget y hy;omega) ⟨_,.t1⟩ (by first|rfl|(simp[aV,aX];done)|(simp[aV,aX];omega)) (hget y hy).2)<|ao 9 Z (q5 (j:=y.toNat) jq Z ⟨_,.t1⟩ (hAl y hy))<|ao 10 Z (Gv.gtr Z Z)<|bO<|zz Z (fun c1=>?_) (fun c1=>?_)
  ·have c1:gi al y<gi al u:=by simpa using c1
   obtain ⟨h1,h2,h3,h4⟩:=zX hV hN hK hu hy c1
   have hp:=hpos u hu
   have hp':=hpos _ h2
   refine zi<|zj<|bD<|z7 (y0 Z9 Z jr (by decide) Z Z)<|z7 (yd (c:=.own _ _) jv Z ⟨_,.head⟩ Z)<|aa Z<|z7 (yy (j:=u.toNat) jh jm Z Z (by have:=hget u hu;omega) ⟨_,.t2⟩ (by first|rfl|(simp[aV,aX];done)|(simp[aV,aX];omega)) (hget u hu).2)<|z7 (q5 (j:=u.toNat) jq Z ⟨_,.t2⟩ (hNl u hu))<|aq Z<|z6 ?_
   exact ⟨gi nr u,cU,aT,aJ,⟨h2,by rw[←h4];exact hmu,.inr (by rcases hux with rfl|h<;>omega)⟩,by omega⟩
  ·have c1:¬gi al y<gi al u:=by simpa using c1
   refine y8<|zj<|ya (γ:=Int) [1,3] (fun z=>[(2,.int .i64 z)]) (fun z=>[(i3,.cells 133 [.own i n,.own j n]),(j,.grow 1 T' (cI al)),(i,.grow 1 T (cI nr))]) (fun z=>gi nr z≠-1∧cM (gi nr) (gi al) K u z=cM (gi nr) (gi al) K a b∧(z=y∨gi al z<gi al y)) (fun z=>(gi al z).toNat) y aT aJ (⟨hy,hmu,.inl Z⟩) ?_
   rintro z ⟨hz,hmz,hzy⟩
   refine ze<|ze<|zw (fun j=>false) (by kernel_rfl) Z (zn (.r (.r (.r (.rest _)))))<|ao 0 Z (y0 Z9 Z jr (by decide) Z Z)<|ao 1 Z (yd (c:=.own _ _) jv Z ⟨_,.head⟩ Z)<|ao 2 Z (fC Z)<|ao 3 Z (yy (j:=z.toNat) jh jm Z Z (by have:=hget z hz;omega) ⟨_,.t1⟩ (by first|rfl|(simp[aV,aX];done)|(simp[aV,aX];omega)) (hget z hz).2)<|ao 4 Z (q5 (j:=z.toNat) jq Z ⟨_,.t1⟩ (hAl z hz))<|ao 5 Z (y0 Z9 Z jr (by decide) Z Z)<|ao 6 Z (yd (c:=.own _ _) jv Z ⟨_,.head⟩ Z)<|ao 7 Z (fC Z)<|ao 8 Z (yy (j:=u.toNat) jh jm Z Z (by have:=hget u hu;omega) ⟨_,.t1⟩ (by first|rfl|(simp[aV,aX];done)|(simp[aV,aX];omega)) (hget u hu).2)<|ao 9 Z (q5 (j:=u.toNat) jq Z ⟨_,.t1⟩ (hAl u hu))<|ao 10 Z (Gv.gtr Z Z)<|bO<|zz Z (fun c2=>?_) (fun c2=>?_)
   ·have c2:gi al u<gi al z:=by simpa using c2
    obtain ⟨h1,h2,h3,h4⟩:=vv hV hN hK hu hz c2
    have hp:=hpos z hz
    have hp':=hpos _ h2
    refine zi<|zj<|bD<|z7 (y0 Z9 Z jr (by decide) Z Z)<|z7 (yd (c:=.own _ _) jv Z ⟨_,.head⟩ Z)<|aa Z<|z7 (yy (j:=z.toNat) jh jm Z Z (by have:=hget z hz;omega) ⟨_,.t2⟩ (by first|rfl|(simp[aV,aX];done)|(simp[aV,aX];omega)) (hget z hz).2)<|z7 (q5 (j:=z.toNat) jq Z ⟨_,.t2⟩ (hNl z hz))<|aq Z<|z6 ?_
    exact ⟨gi nr z,cU,aT,aJ,⟨h2,by rw[←h4];exact hmz,.inr (by rcases hzy with rfl|h<;>omega)⟩,by omega⟩
   ·have c2:¬gi al u<gi al z:=by simpa using c2
    have hp1:=hpos x hx
    have hp2:=hpos y hy
    have hp3:=hpos u hu
    have hp4:=hpos z hz
    have hin:gi al x=gi al y→x=y:=fun e=>hV.inj x y (hN.mem x hx) (hN.mem y hy) e
    refine y8 ?_
    exact ⟨(u,z),aT,cU,aJ,⟨hu,hz,hmz⟩,by dsimp only;rcases hux with rfl|hux<;>rcases hzy with rfl|hzy<;>omega⟩
 ·have hxy:x=y:=by simpa using cxy
  subst hxy
  rw[zY hK0] at hm
  refine y8<|ae<|aa Z<|aq Z<|z6<|yh (aN.drop .head)<|zh<|zm (x:=.int _ _) Z ?_
  exact ⟨by rw[hm],rfl⟩
end
section
open Go.Proofs.Tryz
open Go.Proofs
theorem Hx:eD prog 133 #[(0,1),(1,1)] [.raw (.slice none 0 0),.raw (.slice none 0 0)]:=⟨_,_,Z9,zeroValue133,fun w=>by kernel_rfl,rfl⟩
variable {E:World}
set_option maxRecDepth 20000
theorem rT (f:ac) (hE:ef f) (hn:f.blocks.length≤1000):aU prog E 37 [.fro 1 ((ap (ah f) f.blocks.length).map eE),mF eI (bU f f.blocks.length),.int .i64 f.blocks.length] []
  fun x O'=>∃i:Nat,x=.own i f.blocks.length∧O'=[(i,.grow 1 3 (cI (ba (ah f) f.blocks.length)))]:=by
 have hG:=hE.grph
 have hk:=hG.gok
 have hpos:=hG.npos
 have hol:=eV hG
 obtain ⟨n,hnn⟩:∃n,f.blocks.length=n:=⟨_,rfl⟩
 obtain ⟨S,hS⟩:∃S,ah f=S:=⟨_,rfl⟩
 have hrow:∀k,k<n→(bU f n)[k]?=some (bl S n (k:Int)):=fun k h=>by rw[←hnn,←hS];exact kG f (by omega)
 rw[hnn] at hk hG hpos hol hn ⊢
 rw[hS] at hk hG hol ⊢
 obtain ⟨V,hVe⟩:∃V,ap S n=V:=⟨_,rfl⟩
 have hNG:pk (cS n V) V (bl S n) n=bS S n:=by rw[←hVe];rfl
 rw[hVe] at hk hol ⊢
 have hVp:=hk.pos
 have hK:=hk.K
 have hdl:(V.drop 1).length+1=V.length:=by simp;omega
 refine zk func37 Z (by decide) Z<|ae<|z7 (mS Z)<|z6<|ae<|zr (rows:=[[_]]) bT Z Z Z Z Z<|aa Z<|zq Z (zn (.rest _)) (aB (-1) n (by omega) hpos) ?_
 rintro r18 O18 ⟨i18,rfl,rfl⟩
 refine zr (rows:=[[_]]) bT Z Z Z Z Z<|aa Z<|zq Z (zn (.r (.rest _))) (aB (-1) n (by omega) hpos) ?_
 rintro r21 O21 ⟨i21,rfl,rfl⟩
 refine z7 (zt (cps:=[(0,[_]),(1,[_])]) (rs:=[_,_]) Hx Z Z Z)<|zo (cs:=[.raw (.slice none 0 0),.raw (.slice none 0 0)]) zeroValue133 Z Z<|fun i7=>zf sizeOf133 Z Z Z Z Z Z .head Z<|z6<|ze<|ae<|bh Z<|au jh Z<|aa Z<|z6<|zj<|ya (γ:=Nat) [0,1,7,23,24] (fun k=>[(25,.int .i64 k)]) (fun k=>[(i7,.cells 133 [.own i18 n,.own i21 n]),(i21,.grow 1 3 (cI (tJ n V k))),(i18,.grow 1 3 (cI (List.replicate n (-1))))]) (fun k=>k≤V.length) (fun k=>V.length - k) 0 aT aJ (qm _) ?_
 rintro k hkl
 refine ae<|ax Z Z<|z6<|ze<|zp Z (fun ck=>?_) (fun ck=>?_)
 ·have hk2:k<V.length:=by simp at ck;omega
  have hb:=hk.lt _ (qn hk2)
  have hb0:=hk.ord.nn _ (qn hk2)
  refine zi<|ze<|zj<|ae<|aa Z<|z7 (db k jh jm Z Z Z (qj hk2))<|aw jq Z<|aq Z<|aq Z<|z6<|bD<|z7 (y0 Z9 Z jr (by decide) Z Z)<|z7 (yd (c:=.own _ _) jv Z ⟨_,.head⟩ Z)<|aa Z<|aa Z<|z7 (yy (j:=V[k].toNat) jh jm Z Z (by omega) ⟨_,.t1⟩ (by rw[aV,oJ]) (by omega))<|ai.storeI (j:=V[k].toNat) jm Z Z .t1 (by rw[oJ];omega)<|z6<|bD<|aQ Z Z<|aa Z<|z6 ?_
  exact ⟨k+1,oV,aT,⟨_,(.refl _),by rw[zZ hk2]⟩,hk2,by omega⟩
 ·have hkn:k=V.length:=by simp at ck;omega
  subst hkn
  rw[tK]
  have hatl:(cS n V).length=n:=by rw[←tK];exact oJ n V _
  have hatg:∀x:Int,0≤x→x<n→(cS n V)[x.toNat]?=some (gi (cS n V) x):=fun x h1 h2=>eU h1 (by omega)
  refine y8<|ae<|z7 (y0 Z9 Z jr (by decide) Z Z)<|z7 (yd (c:=.own _ _) jv Z ⟨_,.head⟩ Z)<|z7 (yy (j:=0) jh jm Z Z Z ⟨_,.t2⟩ (by first|rfl|(simp[aV,aX];done)|(simp[aV,aX];omega)) (by omega))<|ai.storeI (j:=0) jm Z Z .t2 (by first|omega|(simp;omega))<|z6<|ze<|ae<|ad Z<|z6<|zj<|ya (γ:=Nat × Bool × List Int) [0,1,7] (fun g=>[(10,.bool g.2.1)]) (fun g=>[(i7,.cells 133 [.own i18 n,.own i21 n]),(i21,.grow 1 3 (cI (cS n V))),(i18,.grow 1 3 (cI g.2.2))]) (fun g=>kK S (gi (cS n V)) V (gi g.2.2) g.1 1∧g.2.2.length=n∧(g.2.1=true→g.1≤V.length)∧(g.2.1=false→g.2.2=bS S n)) (fun g=>(if g.2.1=true then V.length+1 - g.1 else 0)) (0,true,ed n) aT aJ (⟨hk.begin,kj n,fun _=>qm _,fun h=>by cases h⟩) ?_
  rintro ⟨j,again,l⟩ ⟨hR,hl,hj,hfin⟩
  try dsimp only at *
  refine ze<|ae<|ay Z<|z6<|zz Z (fun ca=>?_) (fun ca=>?_)
  ·have ca:again=true:=by simpa using ca
   subst ca
   have hj:=hj rfl
   refine zi<|zj<|ae<|ad Z<|z6<|ae<|bh Z<|z7 (Gv.cutLoM (j:=1) jh jm Z Z Z (by omega))<|au jh Z<|aa Z<|z6<|zj<|ya (γ:=Nat × Bool × List Int) [0,1,7,41,42] (fun g=>[(43,.int .i64 g.1),(10,.bool g.2.1)]) (fun g=>[(i7,.cells 133 [.own i18 n,.own i21 n]),(i21,.grow 1 3 (cI (cS n V))),(i18,.grow 1 3 (cI g.2.2))]) (fun g=>g.1≤(V.drop 1).length∧g.2.2=oK (cS n V) (2*V.length) (bl S n) V l g.1∧kK S (gi (cS n V)) V (gi g.2.2) j ((g.1+1:Nat):Int)∧(g.2.1=true→j<V.length)∧(g.2.1=false→g.2.2=l)) (fun g=>(V.drop 1).length - g.1) (0,false,l) cU aJ (⟨qm _,Z,hR,fun h=>(by cases h),fun _=>Z⟩) ?_
   rintro ⟨q,ag,l'⟩ ⟨hq,hl',hR',hag,hsame⟩
   try dsimp only at *
   have hl'n:l'.length=n:=by rw[hl',Ab,hl]
   refine ae<|ax Z Z<|z6<|ze<|zp Z (fun cq=>?_) (fun cq=>?_)
   ·have hq2:q<(V.drop 1).length:=by simpa using cq
    obtain ⟨b,hb⟩:∃b,(V.drop 1)[q]=b:=⟨_,rfl⟩
    have hbV:V[q+1]?=some b:=by rw[←hb,List.getElem_drop,Nat.add_comm];exact qj (by simp at hq2;omega)
    obtain ⟨hs1,hs2,hs3,hbm,hb0⟩:=hk.step hl'n (Nat.succ_pos q) hbV hR'
    have hblt:=hk.lt b hbm
    have hbnn:=hk.ord.nn b hbm
    have hpr:∀p∈bl S n b,0≤p∧p<n:=fun p hp=>p9 hG hp
    have hsucc:=vw (at_:=cS n V) (K:=2*V.length) (preds:=bl S n) (l:=l) hq2
    rw[hb,←hl'] at hsucc
    have hgl:∀x:Int,0≤x→x<n→l'[x.toNat]?=some (gi l' x):=fun x h1 h2=>eU h1 (by omega)
    have hrb:(bU f n)[b.toNat]?=some (bl S n b):=by
     have:=hrow b.toNat (by omega)
     rwa [show ((b.toNat:Nat):Int)=b by omega] at this
    obtain ⟨ps,hps⟩:∃ps,bl S n b=ps:=⟨_,rfl⟩
    have hpsl:ps.length≤2*n:=by rw[←hps,←hS];exact gY f b n
    rw[hps] at hpr hrb
    refine zi<|ze<|zj<|ae<|z7 (db q jh jm Z Z Z (by rw[qj hq2,hb])) ?_
    refine aw jq Z<|aq Z<|z6<|ae<|aq Z<|z6<|ze<|ae<|bh Z<|aa Z<|z7 (db b.toNat jj jr Z Z (by omega) hrb)<|bd jv Z<|au jh Z<|aa Z<|z6<|zj<|ya (γ:=Nat × Int) [0,1,7,10,12,41,42,43,50,51] (fun g=>[(52,.int .i64 g.1),(13,.int .i64 g.2)]) (fun g=>[(i7,.cells 133 [.own i18 n,.own i21 n]),(i21,.grow 1 3 (cI (cS n V))),(i18,.grow 1 3 (cI l'))]) (fun g=>g.1≤ps.length∧eQ (gi l') (gi (cS n V)) (2*V.length) (ps.drop g.1) g.2=eQ (gi l') (gi (cS n V)) (2*V.length) ps (-1)∧(g.2=-1∨gi l' g.2≠-1)) (fun g=>ps.length - g.1) (0,-1) cU aJ (⟨qm _,Z,.inl Z⟩) ?_
    rintro ⟨m,best⟩ ⟨hm,hbst,hbn⟩
    try dsimp only at *
    refine ae<|ax Z Z<|z6<|ze<|zp Z (fun cm=>?_) (fun cm=>?_)
    ·have hm2:m<ps.length:=by simp at cm;omega
     obtain ⟨p,hp⟩:∃p,ps[m]=p:=⟨_,rfl⟩
     obtain ⟨hp0,hpn⟩:=hpr p (hp▸qn hm2)
     have hbst:eQ (gi l') (gi (cS n V)) (2*V.length) (ps.drop (m+1)) (if gi (cS n V) p=-1∨gi l' p=-1 then best else if best=-1 then p else cM (gi l') (gi (cS n V)) (2*V.length) best p)=eQ (gi l') (gi (cS n V)) (2*V.length) ps (-1):=by
      rw[←hbst,List.drop_eq_getElem_cons hm2,vx,hp]
     refine zi<|ze<|zj<|ae<|z7 (db m jh jm Z Z Z (by rw[qj hm2,hp])) ?_
     refine aw jq Z<|aq Z<|z6<|zj<|ae<|z7 (y0 Z9 Z jr (by decide) Z Z)<|z7 (yd (c:=.own _ _) jv Z ⟨_,.head⟩ Z)<|aa Z<|z7 (yy (j:=p.toNat) jh jm Z Z (by omega) ⟨_,.t1⟩ (by first|rfl|(simp[aV,aX];done)|(simp[aV,aX];omega)) (by omega))<|z7 (q5 (j:=p.toNat) jq Z ⟨_,.t1⟩ (hatg p hp0 hpn))<|ak Z Z<|ay Z<|zx (s:=67) Z (fun c1=>?_) (fun c1=>?_)
     ·have d1:gi (cS n V) p=-1:=by simpa using c1
      rw[if_pos (.inl d1)] at hbst
      refine z8 Z Z c1<|z8 Z Z c1<|z8 Z Z c1<|z8 Z Z c1<|z8 Z Z c1<|z8 Z Z c1<|aM Z c1 Z<|ad Z<|z6<|yq Z Z<|zi<|bD<|aQ Z Z<|aa Z<|z6 ?_
      exact ⟨(m+1,best),nI,cU,aJ,⟨hm2,hbst,hbn⟩,by dsimp only;omega⟩
     ·have d1:¬gi (cS n V) p=-1:=by simpa using c1
      refine za Z Z c1<|z7 (y0 Z9 Z jr (by decide) Z Z)<|za Z Z c1<|z7 (yd (c:=.own _ _) jv Z ⟨_,.head⟩ Z)<|za Z Z c1<|aa Z<|za Z Z c1<|z7 (yy (j:=p.toNat) jh jm Z Z (by omega) ⟨_,.t2⟩ (by first|rfl|(simp[aV,aX];done)|(simp[aV,aX];omega)) (by omega))<|za Z Z c1<|z7 (q5 (j:=p.toNat) jq Z ⟨_,.t2⟩ (hgl p hp0 hpn))<|za Z Z c1<|ak Z Z<|aD Z c1 Z<|ad Z<|z6<|zz Z (fun c2=>?_) (fun c2=>?_)
      ·have d2:gi l' p=-1:=by simpa using c2
       rw[if_pos (.inr d2)] at hbst
       refine zi<|bD<|aQ Z Z<|aa Z<|z6 ?_
       exact ⟨(m+1,best),nI,cU,aJ,⟨hm2,hbst,hbn⟩,by dsimp only;omega⟩
      ·have d2:¬gi l' p=-1:=by simpa using c2
       rw[if_neg (by rintro (h|h);exact d1 h;exact d2 h)] at hbst
       refine ae<|aa Z<|ak Z Z<|ad Z<|z6<|zz Z (fun c3=>?_) (fun c3=>?_)
       ·have c3:best=-1:=by simpa using c3
        rw[if_pos c3] at hbst
        refine bD<|aa Z<|aq Z<|z6<|bD<|aQ Z Z<|aa Z<|z6 ?_
        exact ⟨(m+1,p),nI,cU,aJ,⟨hm2,hbst,.inr d2⟩,by dsimp only;omega⟩
       ·have c3:¬best=-1:=by simpa using c3
        rw[if_neg c3] at hbst
        have hbb:gi l' best≠-1:=by rcases hbn with h|h;exact absurd h c3;exact h
        refine bD<|z7 (q0 isAgg133 sizeOf133 Z ⟨_,.head⟩ Z)<|aa Z<|aa Z<|zq Z (zn (.r (.l (.l (.rest _))))) (Ac hk.ord hR'.inv hK (by omega) hl'n hatl hk.lt hbb d2) ?_
        rintro r59 O59 ⟨rfl,rfl⟩
        refine aq Z<|z6<|yh (zb (zd .t2))<|bD<|aQ Z Z<|aa Z<|z6 ?_
        exact ⟨(m+1,cM (gi l') (gi (cS n V)) (2*V.length) best p),nI,cU,aJ,⟨hm2,hbst,.inr (kJ hk.ord hR'.inv _ best p hbb d2 (hK best p (hR'.inv.mem _ hbb) (hR'.inv.mem _ d2))).1⟩,by dsimp only;omega⟩
    ·have hmn:m=ps.length:=by simp at cm;omega
     subst hmn
     rw[List.drop_length] at hbst
     have hbst:best=eQ (gi l') (gi (cS n V)) (2*V.length) ps (-1):=hbst
     have hst:gz (cS n V) (2*V.length) (bl S n) l' b=l'.set b.toNat best:=by unfold gz;rw[hps,←hbst]
     rw[hst] at hs1 hs2 hsucc
     refine y8<|ae<|z7 (y0 Z9 Z jr (by decide) Z Z)<|z7 (yd (c:=.own _ _) jv Z ⟨_,.head⟩ Z)<|aa Z<|z7 (yy (j:=b.toNat) jh jm Z Z (by omega) ⟨_,.t2⟩ (by first|rfl|(simp[aV,aX];done)|(simp[aV,aX];omega)) (by omega))<|z7 (q5 (j:=b.toNat) jq Z ⟨_,.t2⟩ (hgl b hbnn hblt))<|aa Z<|z7 (yw Z Z)<|z6<|zz Z (fun ce=>?_) (fun ce=>?_)
     ·have ce:¬gi l' b=best:=by simpa using ce
      have hjl:j<V.length:=Classical.byContradiction fun h=>ce (by
       have h2:=hs2 (by omega)
       have h3:=qB (l:=l') hbnn (by omega) best
       rw[h2] at h3
       have h4:=congrFun h3 b
       simpa [gp] using h4)
      refine bD<|z7 (y0 Z9 Z jr (by decide) Z Z)<|z7 (yd (c:=.own _ _) jv Z ⟨_,.head⟩ Z)<|aa Z<|aa Z<|z7 (yy (j:=b.toNat) jh jm Z Z (by omega) ⟨_,.t2⟩ (by first|rfl|(simp[aV,aX];done)|(simp[aV,aX];omega)) (by omega))<|ai.storeI (j:=b.toNat) jm Z Z .t2 (by first|omega|(simp;omega))<|ad Z<|z6<|bD<|aQ Z Z<|aa Z<|z6 ?_
      exact ⟨(q+1,true,l'.set b.toNat best),oV,cU,aJ,⟨hq2,hsucc.symm,hs1,fun _=>hjl,fun h=>by cases h⟩,by dsimp only;omega⟩
     ·have ce:gi l' b=best:=by simpa using ce
      rw[←ce,se hbnn] at hs1 hsucc
      refine zi<|bD<|aQ Z Z<|aa Z<|z6 ?_
      exact ⟨(q+1,ag,l'),oV,cU,aJ,⟨hq2,hsucc.symm,hs1,hag,hsame⟩,by dsimp only;omega⟩
   ·have hqn:q=(V.drop 1).length:=by have h0:¬(q:Int)<((V.drop 1).length:Int):=(by simpa using cq);omega
    subst hqn
    rw[Aa] at hl'
    have hR2:kK S (gi (cS n V)) V (gi l') (j+1) 1:=by rw[hl'];exact hk.pass hl hR
    refine y8 ?_
    exact ⟨(j+1,ag,l'),bX,aT,aJ,⟨hR2,hl'n,fun h=>by have:=hag h;omega,fun h=>by have e:=hsame h;rw[e] at hl';have:=hk.near_eq hl (hk.fixed hl hR hl'.symm);rw[e,this,hNG]⟩,by dsimp only;rw[if_pos rfl];split<;>omega⟩
  ·have ca:again=false:=by simpa using ca
   have hfin:=hfin ca
   subst hfin
   refine y8<|ae<|z7 (y0 Z9 Z jr (by decide) Z Z)<|z7 (yd (c:=.own _ _) jv Z ⟨_,.head⟩ Z)<|z7 (yy (j:=0) jh jm Z Z Z ⟨_,.t2⟩ (by rw[aV,jL]) (by omega))<|ai.storeI (j:=0) jm Z Z .t2 (by rw[jL];omega)<|z6<|ae<|z7 (y0 Z9 Z jr (by decide) Z Z)<|z7 (yd (c:=.own _ _) jv Z ⟨_,.head⟩ Z)<|z7 (sB Z)<|z6<|yh (aN.drop .head)<|yh (aN.drop .head)<|zh<|zm (x:=.own _ _) Z ?_
   exact ⟨i18,rfl,rfl⟩
end
section
open Go.Proofs.Tryz
section
variable {E:World} {P:Program} {env:aH} {O O' O'':OL}
theorem aN.knowIC {j off i m:Nat} {T T':TypeId} {cs:List AV} {l:List Int} (hO:cz O i (.grow 1 T (cI l)) O') (hP:eR O' j (.cells T' cs) (.cells T' (cs.set off (.fro 1 (l.map fun x=>[.int .i64 x])))) O'') (hc:cs[off]?=some (.own i m)) (hm:l.length=m):aN E env O env O'':=
 aN.knowC (rows:=l.map fun x=>[.int .i64 x]) (by rw[rl];exact hO) hP hc (fun r hr=>by obtain ⟨_,_,rfl⟩:=List.mem_map.1 hr;rfl) (by decide) (by rw[qq];exact hm)
theorem aN.knowBC {j off i m:Nat} {T T':TypeId} {cs:List AV} {l:List Bool} (hO:cz O i (.grow 1 T (cB l)) O') (hP:eR O' j (.cells T' cs) (.cells T' (cs.set off (.fro 1 (l.map fun x=>[.bool x])))) O'') (hc:cs[off]?=some (.own i m)) (hm:l.length=m):aN E env O env O'':=
 aN.knowC (rows:=l.map fun x=>[.bool x]) (by rw[wo];exact hO) hP hc (fun r hr=>by obtain ⟨_,_,rfl⟩:=List.mem_map.1 hr;rfl) (by decide) (by rw[qq];exact hm)
theorem aN.nestBackN {α:Type} {c:dn α} {b j m i n:Nat} {T e:TypeId} {rows:List (List α)} {r:List α} (hn:r.length=n) (hP:cz O i (.grow c.k e (c.av r)) O') (hO:eR O' m (wq c T e b rows j n i) (cu c T e b (rows.set j r)) O''):aN E env O env O'':=by subst hn;exact aN.nestBack hP hO
theorem aU.weak {f:FuncId} {args:List AV} {R:AV→OL→Prop} {y:AV} (h:aU P E f args [] R) (hr:∀x O,R x O→O=[]∧∀I v,br I x v→br I y v):aF P E f args y:=fun I F w vs h1 h2=>
 (h I F w vs h1 h2).mono fun v w' ⟨J,x,O',a,b,c,d⟩=>by
  obtain ⟨e,hv⟩:=hr x O' d
  subst e
  exact ⟨J,y,[],a,hv _ _ b,c,rfl⟩
theorem mK {tp te:TypeId} {j:TypeInfo} (a:Addr) (hp:P.underlying tp=some (.pointer te)) (hte:P.info? te=some j) (w:World) :
  (binOp .neq tp (.pointer (some a)) (.pointer none)).run P w=.ok (.bool true) w:=by
 have h:∀d:Nat,(Op.equalIn (d+1) tp (.pointer (some a)) (.pointer none)).run P w=.ok false w:=fun d=>by
  simp[Op.equalIn,run_underlying hp,sizeOf,typeInfo,hte]
 simp only[binOp]
 simp[Op.equal,Op.maxDepth,h 9999]
variable {d ty:Nat} {pos:String} {af:Array Edge} {x y z:Operand} {t u e T:TypeId}
theorem Gv.neqPf {cs:List AV} {j:TypeInfo} (hp:P.underlying t=some (.pointer e)) (hte:P.info? e=some j) (hx:aP env x=.pf cs):Gv P env O (Oper.mk (some d) (.binOp .neq t x (.const (.pointer none)) u) ty pos af none) (.bool true):=qb fun I ρ h=>by
 have h1:=h.ev x
 rw[hx] at h1
 obtain ⟨b,off,vs,e1,_⟩:=h1
 exact ⟨_,rfl,fun w=>by
  have e2:Go.Proofs.YthphijnnbfjikaaGreatDoor.ev ρ (.const (.pointer none))=.pointer none:=rfl
  simp only[execOp,e1,e2];simp[eqGuard,mK _ hp hte]⟩
end
end
section
open Go.Proofs.Tryz
open Go.Proofs
variable {E:World}
set_option maxRecDepth 20000
theorem tL (xs:List Int) (v:Int) (i:Nat) (T:TypeId) (hl:xs.length≤281474976710656):aU prog E 98 [.own i xs.length,.int .i64 v] [(i,.grow 1 T (cI xs))] fun r O=>r=.int .i64 (bF (fun x=>decide (v=x)) xs 0)∧O=[(i,.grow 1 T (cI xs))]:=by
 refine zk func98 Z (by decide) Z<|ae<|aq Z<|z6<|ze<|ae<|z7 (mR Z)<|z7 (Gv.lenO jh Z)<|aa Z<|z6<|zj<|ya (γ:=Nat) [0,1,7] (fun k=>[(8,.int .i64 k)]) (fun k=>[(i,.grow 1 T (cI xs))]) (fun k=>k≤xs.length∧(xs.take k).all (fun x=>!decide (v=x))) (fun k=>xs.length - k) 0 aT aJ (⟨qm _,Z⟩) ?_
 rintro k ⟨hk,hall⟩
 refine ae<|ax Z Z<|z6<|ze<|zp Z (fun ck=>?_) (fun ck=>?_)
 ·have hk2:k<xs.length:=by simp at ck;omega
  refine zi<|ze<|zj<|ae<|aa Z<|aq Z<|z6<|ae<|aa Z<|z7 (mR Z)<|aa Z<|z7 (yy (j:=k) jh jm Z Z Z ⟨_,.head⟩ (by first|rfl|(simp[aV,aX];done)|(simp[aV,aX];omega)) hk2)<|z7 (q5 (j:=k) jq Z ⟨_,.head⟩ (qj hk2))<|ak Z Z<|z6<|zz Z (fun cp=>?_) (fun cp=>?_)
  ·refine ae<|aa Z<|aq Z<|z6<|zh<|zm (x:=.int _ _) Z ?_
   exact ⟨by rw[bv _ xs k hk hall,List.drop_eq_getElem_cons hk2,bF,if_pos (by simpa using cp)],rfl⟩
  ·refine zi<|bD<|aQ Z Z<|aa Z<|z6 ?_
   exact ⟨k+1,bX,aT,aJ,⟨hk2,by rw[qk hk2,List.all_append,hall];simpa using cp⟩,by omega⟩
 ·have hkn:k=xs.length:=by simp at ck;omega
  refine y8<|ae<|aq Z<|z6<|zh<|zm (x:=.int _ _) Z ?_
  exact ⟨by rw[bv _ xs k hk hall,hkn,List.drop_length,bF],rfl⟩
theorem oL (xs:List Int) (v:Int) (i:Nat) (T:TypeId) (hl:xs.length≤281474976710656):aU prog E 68 [.own i xs.length,.int .i64 v] [(i,.grow 1 T (cI xs))] fun r O=>r=.bool (xs.contains v)∧O=[(i,.grow 1 T (cI xs))]:=by
 refine zk func68 Z (by decide) Z<|ae<|ad Z<|z6<|ae<|z7 (mR Z)<|aa Z<|zq Z (zn (.l (.rest _))) (tL xs v i T hl) ?_
 rintro r7 O7 ⟨rfl,rfl⟩
 refine z7 (qa Z Z)<|ad Z<|z6<|zh<|zm (x:=.bool _) Z ?_
 exact ⟨by rw[ej];congr 1;rw[Bool.eq_iff_iff];simp,rfl⟩
theorem oM (xs:List Int) (v:Int) (i:Nat) (T:TypeId) (hl:xs.length≤281474976710656):aU prog E 68 [.own i xs.length,.int .i64 v] [(i,.grow eI.k T (eI.av xs))] fun r O=>r=.bool (xs.contains v)∧O=[(i,.grow eI.k T (eI.av xs))]:=by rw[BL];exact oL xs v i T hl
theorem Ad (l:List Int) (i:Nat) (T:TypeId) (hl:l.length≤200000):aU prog E 69 [.own i l.length] [(i,.grow eI.k T (eI.av l))] fun r O=>r=.tup []∧O=[(i,.grow eI.k T (eI.av (iq l)))]:=by rw[BL,BL];exact tr l i T hl
def r9 (n:Nat) (rows:List (List Int)):Prop:=rows.length=n∧∀r∈rows,r.Nodup∧∀x∈r,0≤x∧x<n
theorem r9.len {n:Nat} {rows:List (List Int)} (h:r9 n rows) {r:List Int} (hr:r∈rows):r.length≤n:=by
 have:=jM r (ee n) (h.2 r hr).1 fun x hx=>fL.2 ((h.2 r hr).2 x hx)
 rwa [gJ] at this
theorem r9.push {n:Nat} {rows:List (List Int)} (h:r9 n rows) {j:Nat} (hj:j<rows.length) {b:Int} (h0:0≤b) (hb:b<n) (hn:b ∉ rows[j]):r9 n (rows.set j (rows[j]++[b])):=by
 refine ⟨by rw[List.length_set];exact h.1,fun r hr=>?_⟩
 rcases List.mem_or_eq_of_mem_set hr with hr|rfl
 ·exact h.2 r hr
 ·obtain ⟨g1,g2⟩:=h.2 _ (qn hj)
  refine ⟨List.nodup_append.2 ⟨g1,by simp,fun x hx y hy e=>?_⟩,fun x hx=>?_⟩
  ·simp at hy;subst hy;subst e;exact hn hx
  ·rcases List.mem_append.1 hx with hx|hx
   ·exact g2 x hx
   ·simp at hx;subst hx;exact ⟨h0,hb⟩
theorem r9.sort {n:Nat} {rows:List (List Int)} (h:r9 n rows) {j:Nat} (hj:j<rows.length):r9 n (rows.set j (iq rows[j])):=by
 refine ⟨by rw[List.length_set];exact h.1,fun r hr=>?_⟩
 rcases List.mem_or_eq_of_mem_set hr with hr|rfl
 ·exact h.2 r hr
 ·obtain ⟨g1,g2⟩:=h.2 _ (qn hj)
  exact ⟨(dC _).nodup_iff.2 g1,fun x hx=>g2 x ((dC _).mem_iff.1 hx)⟩
theorem r9.begin (n:Nat):r9 n (List.replicate n []):=⟨by simp,fun r hr=>by rw[List.eq_of_mem_replicate hr];exact ⟨by simp,fun x hx=>by cases hx⟩⟩
section
variable {S:Int→List Int} {n:Nat} (hG:gA S n)
include hG
theorem tM {c p:Int} (hc:c∈ap S n) (hp:p∈ap S n) (he:c∈S p):c=0∨fG (gi (bS S n)) p (gi (bS S n) c):=by
 by_cases h0:c=0
 ·exact .inl h0
 ·right
  have hX:=hG.exact
  have hO:=hG.gok.ord
  have hb:=hX.has c hc
  obtain ⟨g1,g2,g3⟩:=hX.inv.near c h0 hb
  have hd:uk S (gi (bS S n) c) c:=(hX.anc c _ hc).1 (.up h0 hb (.refl _))
  exact (hX.anc p _ hp).2 (hd.pred ((hO.mem p).1 hp) he (fun e=>by rw[e] at g3;omega))
theorem vy {c y:Int} (hc:c∈ap S n) (hy:(y∈ap S n∧(c=0∨fG (gi (bS S n)) y (gi (bS S n) c)))∨(c=0∧y=-1)) (hne:y≠gi (ba S n) c) :
  y∈ap S n∧((gi (ba S n) y∈ap S n∧(c=0∨fG (gi (bS S n)) (gi (ba S n) y) (gi (bS S n) c)))∨(c=0∧gi (ba S n) y=-1))∧0<(gi (bN S n) y+1).toNat∧(gi (bN S n) (gi (ba S n) y)+1).toNat<(gi (bN S n) y+1).toNat:=by
 have hO:=hG.gok.ord
 have hpos:=hG.npos
 have hyV:y∈ap S n:=by
  rcases hy with h|⟨h1,h2⟩
  ·exact h.1
  ·exact absurd (by rw[h2,h1,rS hpos]) hne
 have hl:=hG.lev_nn hyV
 have hy0:=hO.nn y hyV
 refine ⟨hyV,?_⟩
 by_cases h0:y=0
 ·subst h0
  rw[rS hpos]
  have hc0:c=0:=by
   rcases hy with ⟨_,h|h⟩|h
   ·exact h
   ·rcases h.cases' with e|⟨e,_⟩
    ·by_cases hc0:c=0
     ·exact hc0
     ·have:=hO.nn c hc
      exact absurd (by rw[fe this hc0,←e]) hne
    ·exact absurd rfl e
   ·exact h.1
  have hm:gi (bN S n) (-1)=-1:=uv (.inl (by omega))
  exact ⟨.inr ⟨hc0,rfl⟩,by omega,by rw[hm];omega⟩
 ·rw[fe hy0 h0]
  obtain ⟨g1,g2⟩:=hG.near_mem hyV h0
  have g3:=hG.lev_near hyV h0
  have g4:=hG.lev_nn g1
  refine ⟨.inl ⟨g1,?_⟩,by omega,by omega⟩
  rcases hy with ⟨_,h|h⟩|h
  ·exact .inl h
  ·rcases h.cases' with e|⟨_,_,h3⟩
   ·by_cases hc0:c=0
    ·exact .inl hc0
    ·have:=hO.nn c hc
     exact absurd (by rw[fe this hc0,e]) hne
   ·exact .inr h3
  ·exact .inl h.1
end
theorem tN (f:ac) (hE:ef f) (hn:f.blocks.length≤1000) (t a b fb:Nat) (T:TypeId) (x:AV) (rows:List (List Int)) (hF:r9 f.blocks.length rows) :
  aU prog E 39 [.po t 0,.fro 1 ((ap (ah f) f.blocks.length).map eE),mF eI (bU f f.blocks.length)]
   [(0,cu eI 24 3 fb rows),(t,.cells 103 [.own a f.blocks.length,.own b f.blocks.length,x,dg fb f.blocks.length]),(b,.grow 1 3 (cI (bN (ah f) f.blocks.length))),(a,.grow 1 3 (cI (ba (ah f) f.blocks.length)))]
   fun r O=>r=.tup []∧∃rows',r9 f.blocks.length rows'∧O=[(0,cu eI 24 3 fb rows'),(t,.cells 103 [.own a f.blocks.length,.own b f.blocks.length,x,dg fb f.blocks.length]),(b,.grow 1 3 (cI (bN (ah f) f.blocks.length))),(a,.grow 1 3 (cI (ba (ah f) f.blocks.length)))]:=by
 have hG:=hE.grph
 have hpos:=hG.npos
 have hol:=eV hG
 have hrowP:∀k,k<f.blocks.length→(bU f f.blocks.length)[k]?=some (bl (ah f) f.blocks.length (k:Int)):=fun k h=>kG f h
 have hpl:∀b,(bl (ah f) f.blocks.length b).length≤2*f.blocks.length:=fun b=>gY f b _
 obtain ⟨n,hnn⟩:∃n,f.blocks.length=n:=⟨_,rfl⟩
 obtain ⟨S,hS⟩:∃S,ah f=S:=⟨_,rfl⟩
 rw[hnn] at hG hpos hol hn hrowP hpl hF ⊢
 rw[hS] at hG hol hrowP hpl ⊢
 obtain ⟨V,hVe⟩:∃V,ap S n=V:=⟨_,rfl⟩
 have hVr:∀y∈V,0≤y∧y<n:=fun y hy=>dm hG.toEOk (hVe▸hy)
 have hX:=hG.exact
 have hO:=hG.gok.ord
 have hlev:=hG.lev
 rw[hVe] at hX hO hol ⊢
 have hLl:(bN S n).length=n:=hlev.len
 have hRl:(ba S n).length=n:=eu S n
 have hLg:∀y:Int,0≤y→y<n→(bN S n)[y.toNat]?=some (gi (bN S n) y):=fun y h1 h2=>eU h1 (by omega)
 have hNg:∀y:Int,0≤y→y<n→(ba S n)[y.toNat]?=some (gi (ba S n) y):=fun y h1 h2=>eU h1 (by rw[eu];omega)
 refine zk func39 Z (by decide) Z<|ze<|ae<|bh Z<|au jh Z<|aa Z<|z6<|zj<|ya (γ:=Nat × List (List Int)) [0,2,12,13] (fun g=>[(14,.int .i64 g.1)]) (fun g=>[(0,cu eI 24 3 fb g.2),(t,.cells 103 [.own a n,.own b n,x,dg fb n]),(b,.grow 1 3 (cI (bN S n))),(a,.grow 1 3 (cI (ba S n)))]) (fun g=>g.1≤V.length∧r9 n g.2) (fun g=>V.length - g.1) (0,rows) aT aJ (⟨qm _,hF⟩) ?_
 rintro ⟨k,rows⟩ ⟨hk,hF⟩
 try dsimp only at *
 refine ae<|ax Z Z<|z6<|ze<|zp Z (fun ck=>?_) (fun ck=>?_)
 ·have hk2:k<V.length:=by simp at ck;omega
  obtain ⟨c,hc⟩:∃c,V[k]=c:=⟨_,rfl⟩
  have hcV:c∈V:=hc▸qn hk2
  obtain ⟨hc0,hcn⟩:=hVr c hcV
  have hrow:(bU f n)[c.toNat]?=some (bl S n c):=by
   have:=hrowP c.toNat (by omega)
   rwa [show ((c.toNat:Nat):Int)=c by omega] at this
  have hpc:=hpl c
  have hpr:∀p∈bl S n c,0≤p∧p<n:=fun p hp=>p9 hG hp
  have hpS:∀p∈bl S n c,c∈S p:=fun p hp=>(hG.gok.preds c (by rw[hVe];exact hcV) p).1 hp
  obtain ⟨ps,hps⟩:∃ps,bl S n c=ps:=⟨_,rfl⟩
  rw[hps] at hrow hpc hpr hpS
  refine zi<|ze<|zj<|ae<|z7 (db k jh jm Z Z Z (by rw[qj hk2,hc])) ?_
  refine aw jq Z<|aq Z<|z6<|ae<|bh Z<|aa Z<|z7 (db c.toNat jj jr Z Z (by omega) hrow)<|bd jv Z<|au jh Z<|aa Z<|z6<|zj<|ya (γ:=Nat × List (List Int)) [0,2,7,12,13,14,21,22] (fun g=>[(23,.int .i64 g.1)]) (fun g=>[(0,cu eI 24 3 fb g.2),(t,.cells 103 [.own a n,.own b n,x,dg fb n]),(b,.grow 1 3 (cI (bN S n))),(a,.grow 1 3 (cI (ba S n)))]) (fun g=>g.1≤ps.length∧r9 n g.2) (fun g=>ps.length - g.1) (0,rows) aT aJ (⟨qm _,hF⟩) ?_
  rintro ⟨j,rows⟩ ⟨hj,hF⟩
  try dsimp only at *
  refine ae<|ax Z Z<|z6<|ze<|zp Z (fun cj=>?_) (fun cj=>?_)
  ·have hj2:j<ps.length:=by simp at cj;omega
   obtain ⟨p,hp⟩:∃p,ps[j]=p:=⟨_,rfl⟩
   obtain ⟨hp0,hpn⟩:=hpr p (hp▸qn hj2)
   have hpc2:=hpS p (hp▸qn hj2)
   refine zi<|ze<|zj<|ae<|z7 (db j jh jm Z Z Z (by rw[qj hj2,hp])) ?_
   refine aw jq Z<|aq Z<|z6<|ze<|ae<|z7 (j7 Z)<|z7 (yj Z)<|z7 (y0 Z1 Z jr (by decide) Z Z)<|z7 (yd (c:=.own _ _) jv Z ⟨_,.t1⟩ Z)<|aa Z<|z7 (yy (j:=p.toNat) jh jm Z Z (by omega) ⟨_,.t2⟩ (by first|rfl|(simp[aV,aX];done)|(simp[aV,aX];omega)) (by omega))<|z7 (q5 (j:=p.toNat) jq Z ⟨_,.t2⟩ (hLg p hp0 hpn))<|ak Z Z<|z6<|zz Z (fun cl=>?_) (fun cl=>?_)
   ·refine y8<|bD<|aQ Z Z<|aa Z<|z6 ?_
    exact ⟨(j+1,rows),yE,aT,aJ,⟨hj2,hF⟩,by dsimp only;omega⟩
   ·have hpV:p∈V:=by have h0:¬gi (bN S n) p=-1:=(by simpa using cl);rw[←hVe];exact (hG.lev_mem p).1 h0
    refine zi<|ae<|aa Z<|aq Z<|z6<|zj<|ya (γ:=Int × List (List Int)) [0,2,7,12,13,14,21,22,23] (fun g=>[(10,.int .i64 g.1)]) (fun g=>[(0,cu eI 24 3 fb g.2),(t,.cells 103 [.own a n,.own b n,x,dg fb n]),(b,.grow 1 3 (cI (bN S n))),(a,.grow 1 3 (cI (ba S n)))]) (fun g=>((g.1∈V∧(c=0∨fG (gi (bS S n)) g.1 (gi (bS S n) c)))∨(c=0∧g.1=-1))∧r9 n g.2) (fun g=>(gi (bN S n) g.1+1).toNat) (p,rows) aT aJ (⟨.inl ⟨hpV,tM hG (by rw[hVe];exact hcV) (by rw[hVe];exact hpV) hpc2⟩,hF⟩) ?_
    rintro ⟨y,rows⟩ ⟨hy,hF⟩
    try dsimp only at *
    refine ze<|ae<|aa Z<|z7 (j7 Z)<|z7 (yj Z)<|z7 (y0 Z1 Z jr (by decide) Z Z)<|z7 (yd (c:=.own _ _) jv Z ⟨_,.t1⟩ Z)<|aa Z<|z7 (yy (j:=c.toNat) jh jm Z Z (by omega) ⟨_,.t3⟩ (by first|rfl|(simp[aV,aX];done)|(simp[aV,aX];omega)) (by omega))<|z7 (q5 (j:=c.toNat) jq Z ⟨_,.t3⟩ (hNg c hc0 hcn))<|z7 (yw Z Z)<|z6<|zz Z (fun cy=>?_) (fun cy=>?_)
    ·have hne:y≠gi (ba S n) c:=by simpa using cy
     obtain ⟨hyV,hnx,hms⟩:=vy hG (hVe▸hcV) (by rw[hVe];exact hy) hne
     rw[hVe] at hyV hnx
     obtain ⟨hy0,hyn⟩:=hVr y hyV
     have hyl:y.toNat<rows.length:=by rw[hF.1];omega
     have hrl:=hF.len (qn hyl)
     refine zi<|ze<|zj<|ae<|z7 (j7 Z)<|z7 (yj Z)<|z7 (y0 Z1 Z sizeOf58 (by decide) Z Z)<|z7 (yd (c:=dg _ _) isAgg58 Z ⟨_,.t1⟩ Z)<|aa Z<|z7 (qf (j:=y.toNat) jj jr Z Z (by omega) (by omega))<|q3 (j:=y.toNat) (r:=rows[y.toNat]) jv Z (qj hyl) (fun _=>.head)<|fun i58=>aa Z<|zq Z (zn (.l (.r (.r (.r (.r (.rest _))))))) (oM rows[y.toNat] c i58 _ (by omega)) ?_
     rintro r60 O60 ⟨rfl,rfl⟩
     refine z7 (yo Z)<|zc (aN.nestBack (r:=rows[y.toNat]) .head .head) ?_
     rw[List.set_getElem_self]
     refine z6<|zz Z (fun cin=>?_) (fun cin=>?_)
     ·have hnin:c ∉ rows[y.toNat]:=by simpa using cin
      refine ym (γ:=Unit) [0,2,7,10,12,13,14,21,22,23] (fun u=>[]) (fun u=>[(t,.cells 103 [.own a n,.own b n,x,dg fb n]),(b,.grow 1 3 (cI (bN S n))),(a,.grow 1 3 (cI (ba S n))),(0,cu eI 24 3 fb (rows.set y.toNat (rows[y.toNat]++[c])))]) (fun u=>True) ?_ (fun _ _ h=>h) ?_
      ·refine zw (fun j=>Nat.beq j 16) (by kernel_rfl) Z (zn (.l (.r (.r (.r (.rest _))))))<|ao 0 Z (j7 Z)<|ao 1 Z (yj Z)<|ao 2 Z (y0 Z1 Z sizeOf58 (by decide) Z Z)<|ao 3 Z (yd (c:=dg _ _) isAgg58 Z ⟨_,.head⟩ Z)<|ao 4 Z (fC Z)<|ao 5 Z (j7 Z)<|ao 6 Z (yj Z)<|ao 7 Z (y0 Z1 Z sizeOf58 (by decide) Z Z)<|ao 8 Z (yd (c:=dg _ _) isAgg58 Z ⟨_,.head⟩ Z)<|ao 9 Z (fC Z)<|ao 10 Z (qf (j:=y.toNat) jj jr Z Z (by omega) (by omega))<|ao 12 Z (fC Z)<|yg (i:=11) (j:=13) Z Z (by kernel_rfl) ?_ ?_
       ·refine q3 (j:=y.toNat) (r:=rows[y.toNat]) jv Z (qj hyl) (fun _=>.head)<|fun i73=>z6<|aL 13 Z<|zr (rows:=[[_]]) bT Z Z Z Z Z<|z6<|aL 14 Z<|yp (k:=1) jh type3 Z Z Z Z Z (fun _=>.head) (by rw[eI.av_len];rfl) (by decide) Z (by show (_+1)*8≤_;omega) (by show _+1≤_;omega)<|fun i76=>z6<|ao 15 Z (qf (j:=y.toNat) jj jr Z Z (by omega) (by omega))<|yu<|yz (i:=16) Z (by kernel_rfl) (by kernel_rfl)<|qg (j:=y.toNat) (r:=rows[y.toNat]++[c]) jr Z Z (by omega) .t3 .t3 Z (eI.av_push _ _) (by simp)<|z6<|yx (by kernel_rfl) ?_
        exact ⟨(),nI,trivial,aJ,trivial⟩
       ·refine zr (rows:=[[_]]) bT Z Z Z Z Z<|z6<|aL 11 Z<|q3 (j:=y.toNat) (r:=rows[y.toNat]) jv Z (qj hyl) (fun _=>.head)<|fun i73=>z6<|aL 14 Z<|yp (k:=1) jh type3 Z Z Z Z Z (fun _=>.head) (by rw[eI.av_len];rfl) (by decide) Z (by show (_+1)*8≤_;omega) (by show _+1≤_;omega)<|fun i76=>z6<|ao 15 Z (qf (j:=y.toNat) jj jr Z Z (by omega) (by omega))<|yu<|yz (i:=16) Z (by kernel_rfl) (by kernel_rfl)<|qg (j:=y.toNat) (r:=rows[y.toNat]++[c]) jr Z Z (by omega) .t3 .t3 Z (eI.av_push _ _) (by simp)<|z6<|yx (by kernel_rfl) ?_
        exact ⟨(),nI,trivial,aJ,trivial⟩
      ·rintro _ _
       refine yh (zb (zd .t3))<|bD<|z7 (j7 Z)<|z7 (yj Z)<|z7 (y0 Z1 Z jr (by decide) Z Z)<|z7 (yd (c:=.own _ _) jv Z ⟨_,.t1⟩ Z)<|aa Z<|z7 (yy (j:=y.toNat) jh jm Z Z (by omega) ⟨_,.t3⟩ (by first|rfl|(simp[aV,aX];done)|(simp[aV,aX];omega)) (by omega))<|z7 (q5 (j:=y.toNat) jq Z ⟨_,.t3⟩ (hNg y hy0 hyn))<|aq Z<|z6 ?_
       exact ⟨(gi (ba S n) y,rows.set y.toNat (rows[y.toNat]++[c])),⟨rfl,rfl,rfl,rfl,rfl,rfl,rfl,rfl,rfl,trivial⟩,aT,aJ,⟨hnx,hF.push hyl hc0 hcn hnin⟩,by dsimp only;omega⟩
     ·refine zi<|bD<|z7 (j7 Z)<|z7 (yj Z)<|z7 (y0 Z1 Z jr (by decide) Z Z)<|z7 (yd (c:=.own _ _) jv Z ⟨_,.t1⟩ Z)<|aa Z<|z7 (yy (j:=y.toNat) jh jm Z Z (by omega) ⟨_,.t3⟩ (by first|rfl|(simp[aV,aX];done)|(simp[aV,aX];omega)) (by omega))<|z7 (q5 (j:=y.toNat) jq Z ⟨_,.t3⟩ (hNg y hy0 hyn))<|aq Z<|z6 ?_
      exact ⟨(gi (ba S n) y,rows),⟨rfl,rfl,rfl,rfl,rfl,rfl,rfl,rfl,rfl,trivial⟩,aT,aJ,⟨hnx,hF⟩,by dsimp only;omega⟩
    ·refine y8<|bD<|aQ Z Z<|aa Z<|z6 ?_
     exact ⟨(j+1,rows),yE,aT,aJ,⟨hj2,hF⟩,by dsimp only;omega⟩
  ·refine y8<|bD<|aQ Z Z<|aa Z<|z6 ?_
   exact ⟨(k+1,rows),mB,aT,aJ,⟨hk2,hF⟩,by dsimp only;omega⟩
 ·refine y8<|ae<|z7 (j7 Z)<|z7 (yj Z)<|z7 (y0 Z1 Z sizeOf58 (by decide) Z Z)<|z7 (yd (c:=dg _ _) isAgg58 Z ⟨_,.t1⟩ Z)<|z7 (Gv.lenN jj Z)<|aa Z<|z6<|zj<|ya (γ:=Nat × List (List Int)) [0,84] (fun g=>[(85,.int .i64 g.1)]) (fun g=>[(0,cu eI 24 3 fb g.2),(t,.cells 103 [.own a n,.own b n,x,dg fb n]),(b,.grow 1 3 (cI (bN S n))),(a,.grow 1 3 (cI (ba S n)))]) (fun g=>g.1≤n∧r9 n g.2) (fun g=>n - g.1) (0,rows) aT aJ (⟨qm _,hF⟩) ?_
  rintro ⟨m,rows⟩ ⟨hm,hF⟩
  try dsimp only at *
  refine ae<|ax Z Z<|z6<|ze<|zp Z (fun cm=>?_) (fun cm=>?_)
  ·have hm2:m<n:=by simp at cm;omega
   have hml:m<rows.length:=by rw[hF.1];omega
   have hrl:=hF.len (qn hml)
   refine zi<|ze<|zj<|ae<|aa Z<|aq Z<|z6<|bD<|z7 (j7 Z)<|z7 (yj Z)<|z7 (y0 Z1 Z sizeOf58 (by decide) Z Z)<|z7 (yd (c:=dg _ _) isAgg58 Z ⟨_,.t1⟩ Z)<|aa Z<|z7 (qf (j:=m) jj jr Z Z Z (by omega))<|q3 (j:=m) (r:=rows[m]) jv Z (qj hml) (fun _=>.head)<|fun i94=>zq Z (zn (.l (.r (.r (.r (.r (.rest _))))))) (Ad rows[m] i94 _ (by omega)) ?_
   rintro r95 O95 ⟨rfl,rfl⟩
   refine z6<|yh (aN.nestBackN (r:=iq rows[m]) (dC _).length_eq .head .head)<|bD<|aQ Z Z<|aa Z<|z6 ?_
   exact ⟨(m+1,rows.set m (iq rows[m])),cU,aT,aJ,⟨hm2,hF.sort hml⟩,by dsimp only;omega⟩
  ·refine y8<|dB.t0 ?_
   exact ⟨rfl,rows,hF,rfl⟩
end
section
open Go.Proofs.Tryz
open Go.Proofs
variable {E:World}
set_option maxRecDepth 20000
def oN (f:ac) (x y:AV):AV:=.pf [.fro 1 ((ba (ah f) f.blocks.length).map eE),.fro 1 ((bN (ah f) f.blocks.length).map eE),x,y]
theorem qw (lev:List Int) (b:Int) (x0 x2 x3:AV) (hl:lev.length≤1000):aF prog E 49 [.pf [x0,.fro 1 (lev.map eE),x2,x3],.int .i64 b] (.bool (decide (gi lev b≠-1))):=by
 refine zk func49 Z (by decide) Z<|ae<|ad Z<|z6<|ae<|z7 (j8 Z)<|z7 (Gv.neqPf underlying56 type103 Z)<|ay Z<|za Z Z Z<|aa Z<|za Z Z Z<|z7 (qa Z Z)<|aM Z Z Z<|ay Z<|zx (s:=11) Z (fun c0=>?_) (fun c0=>?_)
 ·have h0:0≤b:=by simpa using c0
  refine za Z Z c0<|aa Z<|za Z Z c0<|z7 (j8 Z)<|za Z Z c0<|z7 (yr Z)<|za Z Z c0<|aj Z1 Z jr Z Z<|za Z Z c0<|bd jv Z<|za Z Z c0<|au jh Z<|za Z Z c0<|ax Z Z<|aM Z c0 Z<|ay Z<|zx (s:=20) Z (fun c1=>?_) (fun c1=>?_)
  ·have h1:b<lev.length:=by simpa using c1
   have hg:lev[b.toNat]?=some (gi lev b):=eU h0 (by omega)
   refine za Z Z c1<|z7 (j8 Z)<|za Z Z c1<|z7 (yr Z)<|za Z Z c1<|aj Z1 Z jr Z Z<|za Z Z c1<|bd jv Z<|za Z Z c1<|aa Z<|za Z Z c1<|z7 (db b.toNat jh jm Z Z (by omega) hg)<|za Z Z c1<|aw jq Z<|za Z Z c1<|z7 (yw Z Z)<|aM Z c1 Z<|ad Z<|z6<|zh<|zm (x:=.bool _) Z ?_
   simp
  ·have h1:¬b<lev.length:=by simpa using c1
   refine z8 Z Z c1<|z8 Z Z c1<|z8 Z Z c1<|z8 Z Z c1<|z8 Z Z c1<|z8 Z Z c1<|z8 Z Z c1<|z8 Z Z c1<|aD Z c1 Z<|ad Z<|z6<|zh<|zm (x:=.bool _) Z ?_
   rw[uv (.inr (by omega))];rfl
 ·have h0:¬0≤b:=by simpa using c0
  refine z8 Z Z c0<|z8 Z Z c0<|z8 Z Z c0<|z8 Z Z c0<|z8 Z Z c0<|z8 Z Z c0<|z8 Z Z c0<|aD Z c0 Z<|ay Z<|z8 Z Z Z<|z8 Z Z Z<|z8 Z Z Z<|z8 Z Z Z<|z8 Z Z Z<|z8 Z Z Z<|z8 Z Z Z<|z8 Z Z Z<|aD Z Z Z<|ad Z<|z6<|zh<|zm (x:=.bool _) Z ?_
  rw[uv (.inl (by omega))];rfl
section
variable {S:Int→List Int} {n:Nat} (hG:gA S n)
include hG
theorem Ae {a b:Int} (ha:a∈ap S n) (hb:b∈ap S n) (hlt:gi (bN S n) a<gi (bN S n) b) :
  b≠0∧gi (ba S n) b∈ap S n∧gi (bN S n) b=gi (bN S n) (gi (ba S n) b)+1∧oY S n a b=oY S n a (gi (ba S n) b):=by
 have hO:=hG.gok.ord
 have hla:=hG.lev_nn ha
 have hl0:gi (bN S n) 0=0:=hG.lev.zero
 have hb0:b≠0:=fun e=>by rw[e,hl0] at hlt;omega
 obtain ⟨g1,g2⟩:=hG.near_mem hb hb0
 have g3:=hG.lev_near hb hb0
 rw[fe (hO.nn b hb) hb0]
 refine ⟨hb0,g1,g3,?_⟩
 rw[Bool.eq_iff_iff,hG.domB_iff,hG.domB_iff,hG.dom_iff hb,hG.dom_iff g1]
 constructor
 ·intro h
  rcases h.cases' with e|⟨_,_,h3⟩
  ·rw[e] at hlt;omega
  ·exact h3
 ·intro h
  exact .up hb0 (hG.exact.has b hb) h
theorem CO {a b:Int} (hb:b∈ap S n) (hge:¬gi (bN S n) a<gi (bN S n) b):oY S n a b=decide (a=b):=by
 rw[Bool.eq_iff_iff,hG.domB_iff,hG.dom_iff hb,qv]
 constructor
 ·intro h
  exact (hG.lev_anc hb h).2.2 (by omega)
 ·rintro rfl;exact .refl _
theorem qx {a b:Int} (h:a ∉ ap S n∨b ∉ ap S n):oY S n a b=false:=by
 rw[Bool.eq_false_iff]
 intro hd
 have hd:=(hG.domB_iff a b).1 hd
 have hb:b∈ap S n:=(hG.gok.ord.mem b).2 hd.1
 have ha:a∈ap S n:=(hG.lev_anc hb ((hG.dom_iff hb).1 hd)).1
 rcases h with h|h
 ·exact h ha
 ·exact h hb
end
theorem Af (f:ac) (hE:ef f) (hn:f.blocks.length≤1000) (a b:Int) (x y:AV):aF prog E 57 [oN f x y,.int .i64 a,.int .i64 b] (.bool (oY (ah f) f.blocks.length a b)):=by
 have hG:=hE.grph
 have hol:=eV hG
 have hO:=hG.gok.ord
 have hrng:∀z∈ap (ah f) f.blocks.length,0≤z∧z<f.blocks.length:=fun z hz=>dm hG.toEOk hz
 have hLl:(bN (ah f) f.blocks.length).length=f.blocks.length:=hG.lev.len
 have hLg:∀z:Int,0≤z→z<f.blocks.length→(bN (ah f) f.blocks.length)[z.toNat]?=some (gi (bN (ah f) f.blocks.length) z):=fun z h1 h2=>eU h1 (by omega)
 have hNg:∀z:Int,0≤z→z<f.blocks.length→(ba (ah f) f.blocks.length)[z.toNat]?=some (gi (ba (ah f) f.blocks.length) z):=fun z h1 h2=>eU h1 (by rw[eu];omega)
 unfold oN
 refine zk func57 Z (by decide) Z<|ae<|ad Z<|z6<|ze<|ae<|z7 (j8 Z)<|aa Z<|zg (qw (bN (ah f) f.blocks.length) a _ x y (by omega)) Z<|z7 (yo Z)<|ay Z<|zx (s:=11) Z (fun ca=>?_) (fun ca=>?_)
 ·have ha:a ∉ ap (ah f) f.blocks.length:=by have h0:gi (bN (ah f) f.blocks.length) a=-1:=(by simpa using ca);exact fun h=>(hG.lev_mem a).2 h h0
  refine z8 Z Z ca<|z8 Z Z ca<|z8 Z Z ca<|z8 Z Z ca<|aM Z ca Z<|z6<|yq Z Z<|ae<|ad Z<|z6<|zh<|zm (x:=.bool _) Z ?_
  rw[qx hG (.inl ha)]
 ·have ha:a∈ap (ah f) f.blocks.length:=by have h0:¬gi (bN (ah f) f.blocks.length) a=-1:=(by simpa using ca);exact (hG.lev_mem a).1 h0
  refine za Z Z ca<|z7 (j8 Z)<|za Z Z ca<|aa Z<|za Z Z ca<|zg (qw (bN (ah f) f.blocks.length) b _ x y (by omega)) Z<|za Z Z ca<|z7 (yo Z)<|aD Z ca Z<|z6<|zz Z (fun cb=>?_) (fun cb=>?_)
  ·have hb:b ∉ ap (ah f) f.blocks.length:=by have h0:gi (bN (ah f) f.blocks.length) b=-1:=(by simpa using cb);exact fun h=>(hG.lev_mem b).2 h h0
   refine ae<|ad Z<|z6<|zh<|zm (x:=.bool _) Z ?_
   rw[qx hG (.inr hb)]
  ·have hb:b∈ap (ah f) f.blocks.length:=by have h0:¬gi (bN (ah f) f.blocks.length) b=-1:=(by simpa using cb);exact (hG.lev_mem b).1 h0
   obtain ⟨ha0,han⟩:=hrng a ha
   refine zi<|ze<|zj<|ya (γ:=Int) [0,1] (fun c=>[(2,.int .i64 c)]) (fun c=>[]) (fun c=>c∈ap (ah f) f.blocks.length∧oY (ah f) f.blocks.length a b=oY (ah f) f.blocks.length a c) (fun c=>(gi (bN (ah f) f.blocks.length) c).toNat) b aT aJ (⟨hb,Z⟩) ?_
   rintro c ⟨hc,hd⟩
   obtain ⟨hc0,hcn⟩:=hrng c hc
   have hl:=hG.lev_nn hc
   refine ze<|ze<|zw (fun j=>false) (by kernel_rfl) Z (zn (.rest _))<|ao 0 Z (j8 Z)<|ao 1 Z (yr Z)<|ao 2 Z (eh Z1 Z jr Z Z)<|ao 3 Z (lA jv Z)<|ao 4 Z (fC Z)<|ao 5 Z (db c.toNat jh jm Z Z (by omega) (hLg c hc0 hcn))<|ao 6 Z (gy jq Z)<|ao 7 Z (j8 Z)<|ao 8 Z (yr Z)<|ao 9 Z (eh Z1 Z jr Z Z)<|ao 10 Z (lA jv Z)<|ao 11 Z (fC Z)<|ao 12 Z (db a.toNat jh jm Z Z (by omega) (hLg a ha0 han))<|ao 13 Z (gy jq Z)<|ao 14 Z (Gv.gtr Z Z)<|bO<|zz Z (fun cc=>?_) (fun cc=>?_)
   ·have hlt:gi (bN (ah f) f.blocks.length) a<gi (bN (ah f) f.blocks.length) c:=by simpa using cc
    obtain ⟨s1,s2,s3,s4⟩:=Ae hG ha hc hlt
    refine zi<|zj<|bD<|z7 (j8 Z)<|z7 (yr Z)<|aj Z1 Z jr Z Z<|bd jv Z<|aa Z<|z7 (db c.toNat jh jm Z Z (by omega) (hNg c hc0 hcn))<|aw jq Z<|aq Z<|z6 ?_
    exact ⟨gi (ba (ah f) f.blocks.length) c,cU,aT,aJ,⟨s2,by rw[hd,s4]⟩,by have:=hG.lev_nn s2;omega⟩
   ·have hge:¬gi (bN (ah f) f.blocks.length) a<gi (bN (ah f) f.blocks.length) c:=by simpa using cc
    refine y8<|ae<|aa Z<|aa Z<|ak Z Z<|ad Z<|z6<|zh<|zm (x:=.bool _) Z ?_
    rw[hd,CO hG hc hge]
end
end Go.Proofs.YthphijnnbfjikaaGreatDoor
