/- The document's edges. Of programs that are little. -/
import Derived.Test.YtbanfokidalbaaaGreatDoorJq
import Derived.Test.YtbanfokidalbaaaGreatDoorJo
import Derived.Test.YtbanfokidalbaaaGreatDoorJn
set_option linter.unusedVariables false
set_option linter.unusedSimpArgs false
set_option linter.unusedSectionVars false
namespace Go.Proofs.YtbanfokidalbaaaGreatDoor
section
open Go.Proofs.Tryz
open Go.Proofs Go.Lib Go.Shelf Go.RowKit
theorem Ma:el prog 150 #[(0,3),(3,1),(4,1),(5,1),(6,1),(7,1)] [.raw (.slice none 0 0),.raw (.slice none 0 0),.raw (.slice none 0 0),.raw (.pointer none),.raw (.slice none 0 0),.int .i64 0,.bool false,.raw (.slice none 0 0)]:=⟨_,_,jw,zeroValue150,fun w=>by kernel_rfl,rfl⟩
variable {E:World}
set_option maxRecDepth 20000
theorem pC (es:List dI):eC es=(es.map gg).flatten:=by unfold eC fj.av;rw[List.flatMap_def];rfl
theorem rP {f:ad} {v:Nat} (hv:v<f.vars.length):bz f v=true:=by unfold bz;simp;omega
def kD (f:ad) (l:List be) (up:Bool):List dI:=if (aR f&&bG f)=true∧l.length=f.vars.length then bX f l up else[]
theorem lT {f:ad} {v:Nat} (hv:v<f.vars.length):oV f v=f.vars[v].ty:=by unfold oV;rw[show ((v:Int).toNat)=v from rfl,qq hv];rfl
theorem og {f:ad} (hf:small f) (l:List be) (up:Bool) {i j:Nat} (hi:i<f.blocks.length) (hj:j≤f.blocks[i].insts.length) :
  (df f l up f.vars.length++(bS f l up i++ee f l up i (f.blocks[i].insts.take j))).length≤70000000:=by
 have hn:=hf.2.2.1
 have a:=ic f l up f.vars.length
 have b:=nY f l up (m:=1000) (fun b hb=>by have:=(hf.2.2.2.2 b hb).2.2.1;omega) i (by omega)
 have c:=qR f l up i f.blocks[i].insts j hj
 have d:=(hf.2.2.2.2 _ (qu hi)).2.2.1
 have e:=hf.1
 simp only[qw]
 have:i*(3*1000)≤1000*3000:=Nat.mul_le_mul (by omega) (by omega)
 omega
set_option maxHeartbeats 8000000 in
theorem Gw (f:ad) (hf:small f) (hL:aE E) (h:(aR f&&bG f)=true) (l:List be) (hol:∀r∈l,cY r) (hll:l.length=f.vars.length) (up:Bool) :
  aJ prog E 35 [.agg (bL f),.fro 2 (l.map bg),.bool up] (.fro 3 ((bX f l up).map gg)):=by
 have hn:=hf.2.2.1
 have hvn:=hf.1
 have hR:=iG (E:=E) f hf hL
 rw[h] at hR
 have ht:=(jW h).1
 have hF:=jX hf h
 have hS:=hF.shaped
 have hE:=bT ht
 have hok:∀u:Int,0≤u→cY (lv l u):=fun u _=>Gn hol u
 have hml:=iZ f
 refine zo func35 Z (by decide) Z<|ah<|yb (cs:=_) Z Z Z<|bV Z<|z6<|zc<|ah<|ab jm jh Z Z<|ze (hR) Z<|aH Z Z<|ai Z<|z8 Z Z Z<|aU Z<|z8 Z Z Z<|ak Yn Z<|z8 Z Z Z<|ae je Z Zg Z Z<|z8 Z Z Z<|aI Zp Z<|z8 Z Z Z<|ak js Z<|z8 Z Z Z<|aH Z Z<|aq Z Z Z<|z6<|yj Z (by simp[hll])<|zd<|ah<|ab jm jh Z Z<|ze (rD f hf hL ht) Z<|za (m6 Z)<|za (yy (v:=.pf _) Z Z)<|za (mq Z Z)<|za (yi (v:=.pf _) Z)<|ay Z<|z6<|zc<|ah<|aa Z<|aH Z Z<|z6 ?_
 refine yj Z Z<|zd<|ah<|ab jm jh Z Z<|za (gS Z)<|aU Z<|ae je Z Zg Z Z<|aI Zp Z<|ak js Z<|ai Z<|za (zz (cps:=[(0,[_,_,_]),(1,[_]),(2,[_]),(3,[_]),(4,[_])]) (rs:=[_,_,_,_,_,_,_,.raw (.slice none 0 0)]) Ma Z Z Z)<|yq (cs:=_) Z Z Z Z<|fun i42=>za (iQ Z)<|z6<|C8 (off:=7) (k:=3) (T:=72) (fun _=>.head) Z<|fun jo=>yg (zi (zj .t1))<|zc<|ah<|ab jm jh Z Z<|ze (jD f hf hL ht) Z<|ak Zo Z<|aa Z<|z6<|zh<|ya (γ:=Nat × Nat) [3,9,44,45] (fun g=>[(46,.int .i64 g.1)]) (fun g=>[(i42,.cells 150 (fV f l up (.own g.2 (df f l up g.1).length))),(g.2,.grow 3 72 (eC (df f l up g.1)))]) (fun g=>g.1≤f.vars.length) (fun g=>f.vars.length - g.1) (0,jo) aG aC (qt _) ?_
 rintro ⟨k,jo⟩ hk
 try dsimp only at *
 refine ah<|aw Z Z<|z6<|zc<|zp Z (fun ck=>?_) (fun ck=>?_)
 ·have hk2:k<f.vars.length:=by simp at ck;omega
  have hvl:=ic f l up k
  refine zd<|zc<|zh<|ah<|aa Z<|za (bD k Zo Yb Z Z Z (gC hk2))<|ab isAgg107 Yb Z Z<|zy (cs:=[.int .i64 0,.int .i64 0]) zeroValue107 Z Z<|fun i11=>ay Z<|zq Yb Z Z Z Z Z Z .head Z<|zf (yd (t:=11) Z .head)<|z6<|zc<|yf (γ:=Bool) [3,9,10,44,45,46] (fun u=>[(62,.bool u)]) (fun u=>[(i42,.cells 150 (fV f l up (.own jo (df f l up k).length))),(jo,.grow 3 72 (eC (df f l up k)))]) (fun u=>u=decide ((aB f k).1<0∧oV f k≠1)) ?_ (fun _ _ h=>h) ?_
  ·refine aM<|ae Yr Z ja Z Z<|ax jc Z<|aw Z Z<|ai Z<|zm (s:=54) Z (fun c1=>?_) (fun c1=>?_)
   ·refine z8 Z Z c1<|ae je Z Zg Z Z<|z8 Z Z c1<|aI Zp Z<|z8 Z Z c1<|aa Z<|z8 Z Z c1<|za (bD k js Zx Z Z Z (qq hk2))<|z8 Z Z c1<|ae Zd Z Yj Z Z<|z8 Z Z c1<|ax Yv Z<|z8 Z Z c1<|aH Z Z<|ap Z c1 Z<|z6 ?_
    exact ⟨_,pt,aG,aC,by rw[lT hk2];simp_all<;>omega⟩
   ·refine z7 Z Z c1<|z7 Z Z c1<|z7 Z Z c1<|z7 Z Z c1<|z7 Z Z c1<|z7 Z Z c1<|z7 Z Z c1<|aq Z c1 Z<|z6 ?_
    exact ⟨_,pt,aG,aC,by rw[lT hk2];simp_all<;>omega⟩
  ·rintro u hu
   subst hu
   refine zp Z (fun cm=>?_) (fun cm=>?_)
   ·refine aM<|aY Z<|aa Z<|zu Z (zn (.l (.l (.rest _)))) (tT f hS l hll up i42 jo (df f l up k) (by omega) (rP hk2)) ?_
    rintro r65 O65 ⟨j2,rfl,rfl,_⟩
    refine z6<|aM<|aA Z Z<|aa Z<|z6 ?_
    exact ⟨(k+1,j2),e7,aG,⟨_,(.refl _),by rw[gh,oZ,if_pos cm];rfl⟩,hk2,by dsimp only;omega⟩
   ·refine zd<|aM<|aA Z Z<|aa Z<|z6 ?_
    exact ⟨(k+1,jo),e7,aG,⟨_,(.refl _),by rw[gh,oZ,if_neg cm,w5]⟩,hk2,by dsimp only;omega⟩
 ·have hkn:k=f.vars.length:=by simp at ck;omega
  subst hkn
  refine y9<|zc<|ah<|ae je Z Ze Z Z<|aI Zl Z<|ak jk Z<|aa Z<|z6 ?_
  obtain ⟨V0,hV0⟩:∃V0,df f l up f.vars.length=V0:=⟨_,rfl⟩
  have hbnd:∀{i j:Nat} (hi:i<f.blocks.length),j≤f.blocks[i].insts.length→(V0++(bS f l up i++ee f l up i (f.blocks[i].insts.take j))).length≤70000000:=fun hi hj=>by rw[←hV0];exact og hf l up hi hj
  rw[hV0]
  refine zh<|ya (γ:=Nat × Nat) [3,9,68,69] (fun g=>[(70,.int .i64 g.1)]) (fun g=>[(i42,.cells 150 (fV f l up (.own g.2 (V0++bS f l up g.1).length))),(g.2,.grow 3 72 (eC (V0++bS f l up g.1)))]) (fun g=>g.1≤f.blocks.length) (fun g=>f.blocks.length - g.1) (0,jo) aG ⟨_,(.refl _),by rw[show bS f l up 0=[] by simp[bS],w5]⟩ (qt _) ?_
  rintro ⟨i,jo⟩ hi
  try dsimp only at *
  refine ah<|aw Z Z<|z6<|zc<|zp Z (fun ci=>?_) (fun ci=>?_)
  ·have hi2:i<f.blocks.length:=by simp at ci;omega
   obtain ⟨b,hbi⟩:∃b,f.blocks[i]=b:=⟨_,rfl⟩
   have hget:f.blocks[i]?=some b:=by rw[qq hi2,hbi]
   have hmem:b∈f.blocks:=hbi▸qu hi2
   obtain ⟨hb0,hb1,hb2,hb3,hb4⟩:=hf.2.2.2.2 b hmem
   obtain ⟨hPh,hIn,hTm⟩:=hS.2.2.2.2.2 b hmem
   have hbnd2:∀j,j≤b.insts.length→(V0++(bS f l up i++ee f l up i (b.insts.take j))).length≤70000000:=fun j hj=>by have:=hbnd hi2 (j:=j) (by rw[hbi];exact hj);rwa [hbi] at this
   refine zd<|zc<|zh<|ah<|aa Z<|za (bD i jk jv Z Z Z hget)<|ab Yk jv Z Z<|zy (cs:=[.str ⟨#[]⟩,.raw (.slice none 0 0),.raw (.slice none 0 0),.int .i64 0,.int .i64 0,.int .i64 0,.int .i64 0]) Zn Z Z<|fun i13=>ay Z<|zq jv Z Z Z Z Z Z .head Z<|zf (yd (t:=13) Z .head)<|z6<|ah<|ae jl Z Y8 Z Z<|aI Yi Z<|ak jx Z<|aa Z<|z6<|zh<|ya (γ:=Nat × Nat) [3,9,12,68,69,70,76,77] (fun g=>[(78,.int .i64 g.1)]) (fun g=>[(i42,.cells 150 (fV f l up (.own g.2 (V0++(bS f l up i++ee f l up i (b.insts.take g.1))).length))),(g.2,.grow 3 72 (eC (V0++(bS f l up i++ee f l up i (b.insts.take g.1)))))]) (fun g=>g.1≤b.insts.length) (fun g=>b.insts.length - g.1) (0,jo) aG ⟨_,(.refl _),by rw[show ee f l up i (b.insts.take 0)=[] by simp[ee],w5]⟩ (qt _) ?_
   rintro ⟨j,jo⟩ hj
   try dsimp only at *
   refine ah<|aw Z Z<|z6<|zc<|zp Z (fun cj=>?_) (fun cj=>?_)
   ·have hj2:j<b.insts.length:=by simp at cj;omega
    obtain ⟨z,hz⟩:∃z,b.insts[j]=z:=⟨_,rfl⟩
    have hI:=fk (hIn z (hz▸qu hj2))
    have hle:=hbnd2 j (by omega)
    have hsn:V0++(bS f l up i++ee f l up i (b.insts.take (j+1)))=V0++(bS f l up i++ee f l up i (b.insts.take j))++fK f l up z i j:=by rw[nW f l up i hj2,hz];simp
    obtain ⟨es,hes⟩:∃es,V0++(bS f l up i++ee f l up i (b.insts.take j))=es:=⟨_,rfl⟩
    rw[hes] at hle hsn
    rw[hes]
    have hdst:0≤z.dst→z.dst.toNat<f.vars.length∧bz f z.dst=true:=fun h0=>by
     rcases hI.dst with ⟨_,h⟩|⟨_,_,h⟩
     ·omega
     ·have:=bH h;exact ⟨by omega,h⟩
    refine zd<|zc<|zh<|ah<|aa Z<|za (bD j jx Z9 Z Z Z (by rw[qq hj2,hz])) ?_
    refine ab Ye Z9 Z Z<|zy (cs:=[.int .i64 0,.int .i64 0,.raw (.slice none 0 0),.int .i64 0]) Yf Z Z<|fun i15=>ay Z<|zq Z9 Z Z Z Z Z Z .head Z<|zf (yd (t:=15) Z .head)<|z6<|zc<|yf (γ:=Bool) [3,9,12,14,15,68,69,70,76,77,78] (fun u=>[(95,.bool u)]) (fun u=>[(i42,.cells 150 (fV f l up (.own jo es.length))),(jo,.grow 3 72 (eC es))]) (fun u=>u=decide (0≤z.dst∧oV f z.dst≠1)) ?_ (fun _ _ h=>h) ?_
    ·refine aM<|ae j8 Z ja Z Z<|ax jc Z<|za (qa Z Z)<|ai Z<|zm (s:=86) Z (fun cd=>?_) (fun cd=>?_)
     ·have hd0:0≤z.dst:=wb cd
      have hdl:=(hdst hd0).1
      have hty:oV f z.dst=f.vars[z.dst.toNat].ty:=by have:=lT (f:=f) hdl;rwa [wa hd0] at this
      refine z8 Z Z cd<|ae je Z Zg Z Z<|z8 Z Z cd<|aI Zp Z<|z8 Z Z cd<|ae j8 Z ja Z Z<|z8 Z Z cd<|ax jc Z<|z8 Z Z cd<|za (bD z.dst.toNat js Zx Z Z (by omega) (qq hdl))<|z8 Z Z cd<|ae Zd Z Yj Z Z<|z8 Z Z cd<|ax Yv Z<|z8 Z Z cd<|aH Z Z<|ap Z cd Z<|z6 ?_
      exact ⟨_,la,aG,aC,by rw[hty];simp[hd0]⟩
     ·refine z7 Z Z cd<|z7 Z Z cd<|z7 Z Z cd<|z7 Z Z cd<|z7 Z Z cd<|z7 Z Z cd<|z7 Z Z cd<|z7 Z Z cd<|aq Z cd Z<|z6 ?_
      exact ⟨_,la,aG,aC,(w8 (fun h=>of_decide_eq_false cd h.1)).symm⟩
    ·rintro u hu
     subst hu
     refine zp Z (fun cc=>?_) (fun cc=>?_)
     ·have hst:fK f l up z i j=cT f l up z i j++sK f l up z.dst:=by unfold fK;rw[if_pos cc]
      have hil:=lL f l up z i j
      refine ah<|aY Z<|ab Ye Z9 Z Z<|aa Z<|aa Z<|zu Z (zn (.l (.l (.rest _)))) (AC f hf hS hE l hll hok up i42 jo es (by omega) z hI i j) ?_
      rintro r100 O100 ⟨j2,rfl,rfl,_⟩
      refine z6<|aM<|aY Z<|ae j8 Z ja Z Z<|ax jc Z<|zu Z (zn (.l (.l (.rest _)))) (tT f hS l hll up i42 j2 (es++cT f l up z i j) (by rw[qw];omega) (hdst cc.1).2) ?_
      rintro r104 O104 ⟨j3,rfl,rfl,_⟩
      refine z6<|aM<|aA Z Z<|aa Z<|z6 ?_
      exact ⟨(j+1,j3),vP,aG,⟨_,(.refl _),by rw[hsn,hst,←qs];rfl⟩,hj2,by dsimp only;omega⟩
     ·have hst:fK f l up z i j=[]:=by unfold fK;rw[if_neg cc]
      refine zd<|aM<|aA Z Z<|aa Z<|z6 ?_
      exact ⟨(j+1,jo),vP,aG,⟨_,(.refl _),by rw[hsn,hst,w5]⟩,hj2,by dsimp only;omega⟩
   ·have hjn:j=b.insts.length:=by simp at cj;omega
    subst hjn
    refine y9<|aM<|aA Z Z<|aa Z<|z6 ?_
    exact ⟨(i+1,jo),e7,aG,⟨_,(.refl _),by rw[qv,my l up hi2,hbi]⟩,hi2,by dsimp only;omega⟩
  ·have hin:i=f.blocks.length:=by simp at ci;omega
   subst hin
   have hed:V0++bS f l up f.blocks.length=bX f l up:=by rw[←hV0];rfl
   rw[hed,pC]
   refine y9<|ah<|aY Z<|za (yc Z)<|za (zr jw Z X8 (by decide) Z Z)<|za (zw (c:=.own _ _) isAgg66 Z ⟨_,.head⟩ Z)<|bM Z<|z6<|zg ?_
   repeat (first|refine br ?_|refine aZ ?_)
   refine aK.fin (aK.know (t:=6) (rows:=(bX f l up).map gg) Z .t1 (by (intro r hr;obtain ⟨x,_,rfl⟩:=List.mem_map.1 hr;rfl)) (by decide) (by (rw[qx])))<|zk (x:=.fro _ _) Z ?_
   rfl
theorem D6 (f:ad) (hf:small f) (hL:aE E) (l:List be) (h:¬((aR f&&bG f)=true∧l.length=f.vars.length)) (up:Bool):aJ prog E 35 [.agg (bL f),.fro 2 (l.map bg),.bool up] (.fro 3 []):=by
 have hR:=iG (E:=E) f hf hL
 refine zo func35 Z (by decide) Z<|ah<|yb (cs:=_) Z Z Z<|bV Z<|z6<|zc<|zc<|yf (γ:=Bool) [1,2,3] (fun u=>[(26,.bool u)]) (fun u=>[]) (fun u=>u=true) ?_ (fun _ _ h=>h) ?_
 ·refine aM<|ab jm jh Z Z<|ze (hR) Z<|aH Z Z<|ai Z<|zm (s:=19) Z (fun c1=>?_) (fun c1=>?_)
  ·refine z7 Z Z c1<|z7 Z Z c1<|z7 Z Z c1<|z7 Z Z c1<|z7 Z Z c1<|z7 Z Z c1<|ap Z c1 Z<|z6 ?_
   exact ⟨_,dC,aG,aC,rfl⟩
  ·have hs:(aR f&&bG f)=true:=by cases hh:(aR f&&bG f);rw[hh] at c1;simp at c1;rfl
   have hne:¬l.length=f.vars.length:=fun e=>h ⟨hs,e⟩
   refine z8 Z Z c1<|aU Z<|z8 Z Z c1<|ak Yn Z<|z8 Z Z c1<|ae je Z Zg Z Z<|z8 Z Z c1<|aI Zp Z<|z8 Z Z c1<|ak js Z<|z8 Z Z c1<|aH Z Z<|aq Z c1 Z<|z6 ?_
   exact ⟨_,dC,aG,aC,by simp;omega⟩
 ·rintro u hu
  subst hu
  refine yt Z Z<|ah<|bV Z<|z6<|yg (qc (t:=6) Z (Ay.nil 3))<|zg<|zk (x:=.fro _ _) Z ?_
  rfl
theorem rQ (f:ad) (hf:small f) (hL:aE E) (l:List be) (hol:∀r∈l,cY r) (up:Bool):aJ prog E 35 [.agg (bL f),.fro 2 (l.map bg),.bool up] (.fro 3 ((kD f l up).map gg)):=by
 by_cases h:(aR f&&bG f)=true∧l.length=f.vars.length
 ·rw[kD,if_pos h];exact Gw f hf hL h.1 l hol h.2 up
 ·rw[kD,if_neg h];exact D6 f hf hL l h up
theorem AD (f:ad) (hf:small f) (hL:aE E) (l:List be) (hol:∀r∈l,cY r):aJ prog E 15 [.agg (bL f),.fro 2 (l.map bg)] (.fro 3 ((kD f l true).map gg)):=by
 refine zo func15 Z (by decide) Z<|ah<|yb (cs:=_) Z Z Z<|bV Z<|z6<|ah<|ab jm jh Z Z<|aU Z<|ze (rQ f hf hL l hol true) Z<|za (iw Z)<|z6<|zg<|zk (x:=.fro _ _) Z ?_
 rfl
theorem AE (f:ad) (hf:small f) (hL:aE E) (l:List be) (hol:∀r∈l,cY r):aJ prog E 21 [.agg (bL f),.fro 2 (l.map bg)] (.fro 3 ((kD f l false).map gg)):=by
 refine zo func21 Z (by decide) Z<|ah<|yb (cs:=_) Z Z Z<|bV Z<|z6<|ah<|ab jm jh Z Z<|aU Z<|ze (rQ f hf hL l hol false) Z<|za (iw Z)<|z6<|zg<|zk (x:=.fro _ _) Z ?_
 rfl
end
section
open Go.Proofs.Tryz
open Go.Proofs Go.Lib Go.Shelf Go.RowKit
theorem eG:el prog 126 #[(0,1),(1,1),(2,1)] [.int .i64 0,.int .i64 0,.int .i64 0]:=⟨_,_,underlying126,zeroValue126,fun w=>by kernel_rfl,rfl⟩
theorem dL:dM prog 84 126 1 3 [.int .i64 0,.int .i64 0,.int .i64 0]:=⟨_,Zu,sizeOf126,zeroValue126,by decide,by decide,by kernel_rfl⟩
variable {E:World}
set_option maxRecDepth 20000
def fG (es:List dI) (to from_:Int) (r:be) (n s:Int):List dI:=es++iz (dz r n) (from_,to,s*n)
theorem D7 (es:List dI) (to from_:Int) (r:be) (n s:Int):(fG es to from_ r n s).length≤es.length+1:=by
 unfold fG
 have:=nX (dz r n) (from_,to,s*n)
 rw[qw];omega
def Ns (es:List dI):AV→OL→Prop:=fun y O=>∃j:Nat,y=.own j es.length∧O=[(j,.grow 3 126 (eC es))]∧True
theorem ej (i:Nat) (es:List dI) (hb:es.length≤90000000) (to from_:Int) (r:be) (n s:Int) (hs:dz r n=true→aP (s*n)) :
  ba prog E 52 [.own i es.length,.int .i64 to,.int .i64 from_,.agg (bg r),.int .i64 n,.int .i64 s] [(i,.grow 3 126 (eC es))] (Ns (fG es to from_ r n s)):=by
 refine ba.exact (γ:=Nat) (x:=fun j=>.own j (fG es to from_ r n s).length) (M:=fun j=>[(j,.grow 3 126 (eC (fG es to from_ r n s)))]) (p:=fun _=>True)<|zo func52 Z (by decide) Z<|ah<|yb (cs:=_) Z Z Z<|bV Z<|z6<|zc<|zc<|yf (γ:=Bool) [0,1,2,4,5] (fun u=>[(25,.bool u)]) (fun u=>[(i,.grow 3 126 (eC es))]) (fun u=>u=!dz r n) ?_ (fun _ _ h=>h) ?_
 ·refine aM<|ae jr Z ji Z Z<|ax jp Z<|ae jr Z ji Z Z<|ax jp Z<|aO Z Z<|ai Z<|zm (s:=18) Z (fun c1=>?_) (fun c1=>?_)
  ·refine z7 Z Z c1<|z7 Z Z c1<|ap Z c1 Z<|ai Z<|z7 Z Z Z<|z7 Z Z Z<|ap Z Z Z<|z6 ?_
   exact ⟨_,iT,aG,aC,by unfold dz mO lc;simp_all<;>omega⟩
  ·refine z8 Z Z c1<|aa Z<|z8 Z Z c1<|aj Z Z<|aq Z c1 Z<|ai Z<|zm (s:=22) Z (fun c2=>?_) (fun c2=>?_)
   ·refine z7 Z Z c2<|z7 Z Z c2<|ap Z c2 Z<|z6 ?_
    exact ⟨_,iT,aG,aC,by unfold dz mO lc;simp_all<;>omega⟩
   ·refine z8 Z Z c2<|aa Z<|z8 Z Z c2<|aj Z Z<|aq Z c2 Z<|z6 ?_
    exact ⟨_,iT,aG,aC,by unfold dz mO lc;simp_all<;>omega⟩
 ·rintro u hu
  subst hu
  refine zt Z (fun c=>?_) (fun c=>?_)
  ·have hf:dz r n=false:=by simpa using c
   have he:fG es to from_ r n s=es:=by unfold fG;rw[hf];simp[iz]
   refine ah<|bw Z<|bM Z<|z6<|zg<|zk (x:=.own _ _) Z ?_
   exact ⟨i,by rw[he],⟨_,.refl _,by rw[he]⟩,trivial⟩
  ·have hf:dz r n=true:=by simpa using c
   have he:fG es to from_ r n s=es++[(from_,to,IntKind.i64.wrap (s*n))]:=by unfold fG;rw[hf,aQ (hs hf)];rfl
   refine zd<|ah<|bw Z<|aa Z<|aa Z<|aa Z<|aa Z<|za (Gv.mulW Z Z)<|za (zz (cps:=[(0,[_]),(1,[_]),(2,[_])]) (rs:=[_,_,_]) eG Z Z Z)<|y8 (rows:=[[_,_,_]]) dL Z Z Z Z Z<|yn (k:=3) Zu Xb Z Z Z Z Z (fun _=>.head) (by rw[qN]) (by decide) Z (by show (_+1)*24≤_;omega) (by show _+1≤_;omega)<|fun i35=>bM Z<|z6<|zg<|zk (x:=.own _ _) Z ?_
   exact ⟨i35,by rw[he,qw];rfl,⟨_,.refl _,by rw[he,←uC];rfl⟩,trivial⟩
end
end Go.Proofs.YtbanfokidalbaaaGreatDoor
