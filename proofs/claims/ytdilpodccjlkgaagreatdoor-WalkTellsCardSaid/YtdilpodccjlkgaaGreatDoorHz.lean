/- What is so of plain programs; the chapter's example. Of programs that are little. -/
import Derived.Test.YtdilpodccjlkgaaGreatDoorHy
import Derived.Test.YtdilpodccjlkgaaGreatDoorHq
import Derived.Test.YtdilpodccjlkgaaGreatDoorHo
import Derived.Test.YtdilpodccjlkgaaGreatDoorHd
import Derived.Test.YtdilpodccjlkgaaGreatDoorHr
import Derived.Test.YtdilpodccjlkgaaGreatDoorHw
import Derived.Test.YtdilpodccjlkgaaGreatDoorHv
import Derived.Test.YtdilpodccjlkgaaGreatDoorHm
import Derived.Test.YtdilpodccjlkgaaGreatDoorHh
import Derived.Test.YtdilpodccjlkgaaGreatDoorHu
set_option linter.unusedVariables false
set_option linter.unusedSimpArgs false
set_option linter.unusedSectionVars false
namespace Go.Proofs.YtdilpodccjlkgaaGreatDoor
open Go.Proofs.Tryz
open Go.Proofs Go.Lib Go.Shelf Go.RowKit
variable {E:World}
set_option maxRecDepth 20000
theorem sY {f:ad} {a b:Nat} (h:b<f.blocks.length):(mV f a)[b]?=some (domF f a b):=BJ h
theorem my {n k:Nat} (h:k<n):(aU n)[k]?=some (k:Int):=by unfold aU;rw[qs,List.getElem?_range h];rfl
def qN (f:ad) (a b:Int) (x:Int):Bool:=!(!decide (x=b)&&domF f x b)||domF f x a
theorem Cw {p:Int→Bool} {n k:Nat} (h:((aU n).take k).all (fun a=>!p a)=true) (hk:k<n) (hp:p k=true):(aU n).find? p=some (k:Int):=by
 rw[←List.take_append_drop k (aU n),List.find?_append,List.find?_eq_none.2 (fun a ha=>by have:=List.all_eq_true.1 h a ha;simpa using this),rY (my hk)]
 simp[List.find?_cons,hp]
set_option maxHeartbeats 4000000 in
theorem u9 (f:ad) (hn:f.blocks.length≤1000) (b:Nat) (hb:b<f.blocks.length):aK prog E 44 [DY (ml f),.int .i64 b] (.int .i64 (nearD f b)):=by
 have htl:=gO f
 unfold DY
 refine zq func44 U (by decide) U<|ae<|ap U<|z6<|zd<|ae<|aT U<|ar X1 U<|aa U<|z6<|zj<|y8 (γ:=Nat) [0,1,9] (fun k=>[(10,.int .i64 k)]) (fun k=>[]) (fun k=>k≤f.blocks.length∧((aU f.blocks.length).take k).all (fun a=>!isNear f a b)=true) (fun k=>f.blocks.length - k) 0 aH aD (⟨qn _,U⟩) ?_
 rintro k ⟨hk,hall⟩
 refine ae<|ax U U<|z6<|zd<|zu U (fun ck=>?_) (fun ck=>?_)
 ·have hk2:k<f.blocks.length:=by omega
  have hsu:((aU f.blocks.length).take (k+1)).all (fun a=>!isNear f a b)=!isNear f k b:=by
   rw[List.take_add_one,my hk2,List.all_append,hall];simp
  have his:isNear f k b=((!decide ((k:Int)=b)&&domF f k b)&&(aU f.blocks.length).all (qN f k b)):=rfl
  refine zg<|zd<|zj<|ae<|aa U<|ap U<|z6<|zd<|zd<|ya (γ:=Bool) [0,1,5,9,10] (fun u=>[(25,.bool u)]) (fun u=>[]) (fun u=>u=!(!decide ((k:Int)=b)&&domF f k b)) ?_ (fun _ _ h=>h) ?_
  ·refine aO<|aa U<|aa U<|ai U U<|aj U<|zo (s:=16) U (fun c1=>?_) (fun c1=>?_)
   ·refine z7 U U c1<|z7 U U c1<|z7 U U c1<|z7 U U c1<|z7 U U c1<|z7 U U c1<|z7 U U c1<|z7 U U c1<|aq U c1 U<|z6 ?_
    exact ⟨_,(by repeat (first|with_reducible exact zp _ _|refine zz rfl ?_|exact iO)),aH,aD,by simp_all⟩
   ·refine z8 U U c1<|aT U<|z8 U U c1<|aa U<|z8 U U c1<|za (bh k X1 sizeOf29 U U U (mn hk2))<|z8 U U c1<|aI isAgg29 U<|z8 U U c1<|aa U<|z8 U U c1<|za (bh b jx Zc U U U (sY hb))<|z8 U U c1<|za (yn (c:=.bool _) Y7 U)<|z8 U U c1<|aB U<|au U c1 U<|z6 ?_
    exact ⟨_,(by repeat (first|with_reducible exact zp _ _|refine zz rfl ?_|exact iO)),aH,aD,by simp_all⟩
  ·rintro u hu
   refine zy U (fun cu=>?_) (fun cu=>?_)
   ·have h0:isNear f k b=false:=by
     rw[his,show (!decide ((k:Int)=b)&&domF f k b)=false by cases h:(!decide ((k:Int)=b)&&domF f k b) with|false=>rfl|true=>rw[hu,h] at cu;cases cu];rfl
    refine y7<|aO<|aC U U<|aa U<|z6 ?_
    exact ⟨k+1,de,aH,aD,⟨hk2,by rw[hsu,h0];rfl⟩,by omega⟩
   ·have h0:(!decide ((k:Int)=b)&&domF f k b)=true:=by
     cases h:(!decide ((k:Int)=b)&&domF f k b) with
     |true=>rfl
     |false=>rw[hu,h] at cu;cases cu
    rw[h0,Bool.true_and] at his
    refine zg<|ae<|ab U<|z6<|zd<|ae<|aT U<|ar X1 U<|aa U<|z6<|zj<|y8 (γ:=Nat × Bool) [0,1,5,9,10,27] (fun g=>[(28,.int .i64 g.1),(6,.bool g.2)]) (fun g=>[]) (fun g=>g.1≤f.blocks.length∧g.2=((aU f.blocks.length).take g.1).all (qN f k b)) (fun g=>f.blocks.length - g.1) (0,true) cV aD (⟨qn _,U⟩) ?_
    rintro ⟨x,ok⟩ ⟨hx,hok⟩
    try dsimp only at *
    refine ae<|ax U U<|z6<|zd<|zu U (fun cx=>?_) (fun cx=>?_)
    ·have hx2:x<f.blocks.length:=by omega
     have hsx:((aU f.blocks.length).take (x+1)).all (qN f k b)=(ok&&qN f k b x):=by
      rw[List.take_add_one,my hx2,List.all_append,←hok];simp
     refine zg<|zd<|zj<|ae<|aa U<|ap U<|z6<|zd<|ya (γ:=Bool) [0,1,5,6,9,10,27,28] (fun u=>[(52,.bool u)]) (fun u=>[]) (fun u=>u=!qN f k b x) ?_ (fun _ _ h=>h) ?_
     ·refine aO<|aa U<|aa U<|aM U U<|aj U<|zo (s:=34) U (fun c2=>?_) (fun c2=>?_)
      ·refine z8 U U c2<|aT U<|z8 U U c2<|aa U<|z8 U U c2<|za (bh x X1 sizeOf29 U U U (mn hx2))<|z8 U U c2<|aI isAgg29 U<|z8 U U c2<|aa U<|z8 U U c2<|za (bh b jx Zc U U U (sY hb))<|z8 U U c2<|za (yn (c:=.bool _) Y7 U)<|aq U c2 U<|aj U<|zo (s:=43) U (fun c3=>?_) (fun c3=>?_)
       ·refine z8 U U c3<|aT U<|z8 U U c3<|aa U<|z8 U U c3<|za (bh x X1 sizeOf29 U U U (mn hx2))<|z8 U U c3<|aI isAgg29 U<|z8 U U c3<|aa U<|z8 U U c3<|za (bh k jx Zc U U U (sY hk2))<|z8 U U c3<|za (yn (c:=.bool _) Y7 U)<|z8 U U c3<|aB U<|aq U c3 U<|z6 ?_
        exact ⟨_,(by repeat (first|with_reducible exact zp _ _|refine zz rfl ?_|exact pS)),aH,aD,by unfold qN;simp_all⟩
       ·refine z7 U U c3<|z7 U U c3<|z7 U U c3<|z7 U U c3<|z7 U U c3<|z7 U U c3<|z7 U U c3<|z7 U U c3<|au U c3 U<|z6 ?_
        exact ⟨_,(by repeat (first|with_reducible exact zp _ _|refine zz rfl ?_|exact pS)),aH,aD,by unfold qN;simp_all⟩
      ·refine z7 U U c2<|z7 U U c2<|z7 U U c2<|z7 U U c2<|z7 U U c2<|z7 U U c2<|z7 U U c2<|au U c2 U<|aj U<|z7 U U U<|z7 U U U<|z7 U U U<|z7 U U U<|z7 U U U<|z7 U U U<|z7 U U U<|z7 U U U<|au U U U<|z6 ?_
       exact ⟨_,(by repeat (first|with_reducible exact zp _ _|refine zz rfl ?_|exact pS)),aH,aD,by unfold qN;simp_all⟩
     ·rintro w hw
      refine zy U (fun cw=>?_) (fun cw=>?_)
      ·refine aO<|ab U<|z6<|aO<|aC U U<|aa U<|z6 ?_
       exact ⟨(x+1,false),nu,cV,aD,⟨hx2,by rw[hsx,show qN f k b x=false by rw[hw] at cw;simpa using cw,Bool.and_false]⟩,by dsimp only;omega⟩
      ·refine zg<|aO<|aC U U<|aa U<|z6 ?_
       exact ⟨(x+1,ok),nu,cV,aD,⟨hx2,by rw[hsx,show qN f k b x=true by rw[hw] at cw;simpa using cw,Bool.and_true]⟩,by dsimp only;omega⟩
    ·obtain rfl:x=f.blocks.length:=by omega
     rw[List.take_of_length_le (by rw[bA];omega),←his] at hok
     refine y7<|ae<|aj U<|z6<|zy U (fun cf=>?_) (fun cf=>?_)
     ·have hf:=Cw (p:=fun a=>isNear f a b) hall hk2 (hok▸cf)
      refine ae<|aa U<|ap U<|z6<|zi<|zm (x:=.int _ _) U ?_
      unfold nearD;rw[hf];rfl
     ·refine zg<|aO<|aC U U<|aa U<|z6 ?_
      exact ⟨k+1,de,aH,aD,⟨hk2,by rw[hsu,←hok,cf];rfl⟩,by omega⟩
 ·obtain rfl:k=f.blocks.length:=by omega
  have hf:(aU f.blocks.length).find? (fun a=>isNear f a b)=none:=by
   rw[List.take_of_length_le (by rw[bA];omega)] at hall
   exact List.find?_eq_none.2 fun a ha=>by have:=List.all_eq_true.1 hall a ha;simpa using this
  refine y7<|ae<|ap U<|z6<|zi<|zm (x:=.int _ _) U ?_
  unfold nearD;rw[hf];rfl
theorem ld (N:List Int):∀(k:Nat) (b:Int),(cN N k b).length≤k
 |0,_=>Nat.le_refl _
 |k+1,b=>by
  unfold cN
  split
  ·simp
  ·have:=ld N k (gi N b);simp;omega
def Fo (E:World) (f:ad) (m:Nat):Prop:=∀(b:Nat),b<f.blocks.length→gi (bT (ah f) f.blocks.length) (b:Int)<m →
  aR prog E 24 [DY (ml f),.int .i64 b] [] (fun y O=>∃g:Nat,y=.own g (upT f b).length∧O=[(g,.grow 1 3 (cI (upT f b).reverse))]∧True)
theorem wy {f:ad} (hR:bE f) (hn:f.blocks.length≤1000) (m:Nat) (ih:Fo E f m):Fo E f (m+1):=by
 intro b hb h
 refine yu (γ:=Nat) (x:=fun g=>.own g (upT f b).length) (M:=fun g=>[(g,.grow 1 3 (cI (upT f b).reverse))]) (p:=fun _=>True) ?_
 have hup:=hR.upT (b:=(b:Int)) ⟨by omega,by omega⟩
 have hnd:=hR.nearD (b:=(b:Int)) ⟨by omega,by omega⟩
 have hne:=u9 (E:=E) f hn b hb
 have hlen:(upT f (b:Int)).length≤f.blocks.length:=ld ..
 refine zq func24 U (by decide) U<|ae<|bF U<|z6<|zd<|ae<|aT U<|aa U<|ze (hne) U<|ap U<|z6 ?_
 by_cases h0:(b:Int)=0
 ·rw[if_pos h0] at hup hnd
  rw[hnd]
  refine ae<|aa U<|za (yy U U)<|z6<|yg U (qy (by omega))<|zg<|ae<|aa U<|az.buildSliceO (cps:=[(0,[_])]) (rs:=[_]) cC U U U U U<|fun i18=>za (gZ U)<|z6<|zi<|zm (x:=.own _ _) U ?_
  exact ⟨i18,by rw[hup];rfl,⟨_,.refl _,by rw[hup];rfl⟩,trivial⟩
 ·rw[if_neg h0] at hup hnd
  have hm2:=hR.memO (b:=(b:Int)) ⟨by omega,by omega⟩
  obtain ⟨g1,_⟩:=hR.hE.grph.near_mem hm2 h0
  have hl:=hR.hE.grph.lev_near hm2 h0
  have hpr:=b3 hR.hE.grph.toEOk g1
  rw[hnd]
  obtain ⟨c,hc⟩:∃c:Nat,gi (bl (ah f) f.blocks.length) b=(c:Int):=⟨(gi (bl (ah f) f.blocks.length) b).toNat,by omega⟩
  rw[hc] at hpr hl hup ⊢
  have hlc:(upT f (c:Int)).length≤f.blocks.length:=ld ..
  refine ae<|aa U<|za (yy U U)<|z6<|yl U (qx (by omega))<|ae<|aT U<|aa U<|zr U (zh (.rest _)) (ih c (by omega) (by omega)) ?_
  rintro r13 O13 ⟨i13,rfl,rfl,_⟩
  refine aa U<|y4 (rows:=[[_]]) cC U U U U U<|yj (k:=1) wz X8 U U U U U (fun _=>.head) (by rw[aQ,List.length_reverse];omega) (by decide) U (by show (_+_)*8≤_;simp<;>omega) (by simp<;>omega)<|fun i16=>za (gZ U)<|z6<|zi<|zm (x:=.own _ _) U ?_
  exact ⟨i16,by rw[hup];rfl,⟨_,.refl _,by rw[hup,List.reverse_cons,←lw];rfl⟩,trivial⟩
theorem mz {f:ad} (hR:bE f) (hn:f.blocks.length≤1000):∀m:Nat,Fo E f m
 |0=>fun b hb h=>by have:=hR.lev hb;omega
 |m+1=>wy hR hn m (mz hR hn m)
end Go.Proofs.YtdilpodccjlkgaaGreatDoor
namespace Go.Proofs.YtdilpodccjlkgaaGreatDoor
open Go.Proofs.Tryz
open Go.Proofs
theorem aR.lendToH {P:Program} {E:World} {f:FuncId} {ars ars':List AV} {O1 O2:OL} {Q:AV→OL→Prop}
  (has:∀(I J:G) (L:List (Nat × Obj)),I.le J→bt I O1 L→(∀y∈L,J.k y.1=some y.2)→∀vs,RepL I ars vs→RepL J ars' vs)
  (hx:∀(I J:G) y O v,Q y O→bq J y v→bq I y v) (hO:∀(I J:G) y O B,I.h=J.h→Q y O→bt J O B→bt I O B)
  (h:aR P E f ars' O2 Q):aR P E f ars (O1++O2) fun y O'=>∃O'',Q y O''∧O'=O1++O'':=fun I F w vs h1 h2=>by
 obtain ⟨ht,L,hL,hS⟩:=id h2
 obtain ⟨A,B,rfl,hA,hB⟩:=bt.append.1 hL
 rw[qm] at hS
 obtain ⟨K,h3,h4,hf⟩:=SL.freezeAllN hS
 let J:G:=⟨K,I.h⟩
 have hle:I.le J:=⟨h3,fun _ _ h=>h⟩
 refine (h J F w vs (has I J A hle hA hf vs h1) ⟨ht,B,hB.mono hle,h4⟩).mono fun v w' ⟨J2,y,O',a,b,c,d⟩=>?_
 obtain ⟨ht2,B',hB',hS'⟩:=c
 have hI2:∀b o,I.k b=some o→J2.k b=some o:=fun b o hb=>a.k b o (hle.k b o hb)
 have hA2:∀z∈A,J2.k z.1=some z.2:=fun z hz=>a.k _ _ (hf z hz)
 let I':G:=⟨I.k,J2.h⟩
 have hle':I.le I':=⟨fun _ _ h=>h,a.h⟩
 refine ⟨I',y,_,hle',hx I' J2 y O' v d b,⟨ht2,A++B',bt.append.2 ⟨A,B',U,hA.mono hle',hO I' J2 y O' B' U d hB'⟩,?_⟩,O',d,U⟩
 rw[qm]
 refine ⟨hS'.os,hS'.output,hS'.tape,fun b o hb=>hS'.pers b o (hI2 b o hb),fun z hz=>?_,?_,fun z hz=>?_,hS.base,hS.flat,fun z hz=>?_⟩
 ·rcases List.mem_append.1 hz with hz|hz
  ·exact hS'.pers _ _ (hA2 z hz)
  ·exact hS'.own z hz
 ·have hn:=hS.nodup
  rw[qv,List.nodup_append] at hn ⊢
  refine ⟨hn.1,hS'.nodup,fun p hp q hq e=>?_⟩
  obtain ⟨z,hz,rfl⟩:=List.mem_map.1 hp
  obtain ⟨u,hu,rfl⟩:=List.mem_map.1 hq
  have h5:=hS'.apart u hu
  rw[←e,hA2 z hz] at h5
  cases h5
 ·rcases List.mem_append.1 hz with hz|hz
  ·exact hS.apart z (List.mem_append_left _ hz)
  ·have h5:=hS'.apart z hz
   cases h6:I.k z.1 with
   |none=>rfl
   |some o=>rw[hI2 _ _ h6] at h5;cases h5
 ·rcases List.mem_append.1 hz with hz|hz
  ·exact hS.oflat z (List.mem_append_left _ hz)
  ·exact hS'.oflat z hz
theorem Cx {I J:G}:∀{l:List Int} {vs:List Value},RepL J (cI l) vs→RepL I (cI l) vs
 |[],_,h=>h
 |_::l,_,h=>by
  obtain ⟨a,b,rfl,h1,h2⟩:=h
  exact ⟨a,b,rfl,h1,Cx (l:=l) h2⟩
theorem Ao {I J:G} (hh:I.h=J.h) {i:Nat} {T:TypeId} {l:List Int} {B:List (Nat × Obj)} (h:bt J [(i,.grow 1 T (cI l))] B):bt I [(i,.grow 1 T (cI l))] B:=by
 obtain ⟨A,C,e,⟨b,c,n,vs,h1,h2,h3⟩,h4⟩:=h
 exact ⟨A,C,e,⟨b,c,n,vs,by rw[hh];exact h1,Cx h2,h3⟩,h4⟩
end Go.Proofs.YtdilpodccjlkgaaGreatDoor
namespace Go.Proofs.YtdilpodccjlkgaaGreatDoor
open Go.Proofs.Tryz
open Go.Proofs Go.Lib Go.Shelf Go.RowKit
variable {E:World}
set_option maxRecDepth 20000
theorem kK (p q:Bool):0≤fJ p q∧fJ p q≤2:=by cases p<;>cases q<;>decide
theorem sZ (f:ad) (K:KS):∀(n:Nat) (v:Int),0≤fa f K n v∧fa f K n v≤2
 |0,v=>by unfold fa;omega
 |n+1,v=>by
  unfold fa
  split
  ·omega
  ·repeat' split
   ·exact kK ..
   ·exact kK ..
   ·exact kK ..
   ·exact sZ f K n _
   ·exact kK ..
   ·exact kK ..
   ·omega
theorem Ap {z:Int} (h:0≤z∧z≤2):fJ (decide (z=1)) (decide (z=2))=z:=by
 have:z=0∨z=1∨z=2:=by omega
 rcases this with rfl|rfl|rfl<;>rfl
structure CG (f:ad) (K:KS) (D:List Int):Prop where
 len:D.length=f.vars.length
 val:∀(j:Nat) (d:Int),D[j]?=some d→d=0∨d=3+dK f K j
theorem CG.emp (f:ad) (K:KS):CG f K (List.replicate f.vars.length 0):=⟨by simp,fun j d h=>by rw[List.getElem?_replicate] at h;split at h<;>cases h;exact .inl rfl⟩
theorem CG.put {f:ad} {K:KS} {D:List Int} (h:CG f K D) (j:Nat) {d:Int} (hd:d=3+dK f K j):CG f K (D.set j d):=⟨by rw[List.length_set];exact h.len,fun i e he=>by
 rw[List.getElem?_set] at he
 split at he
 ·rename_i hij
  subst hij
  split at he
  ·cases he;exact .inr hd
  ·cases he
 ·exact h.val i e he⟩
def DZ (E:World) (f:ad) (K:KS) (P:List aF) (jd n:Nat):Prop:=∀(D:List Int) (v:Nat),v<f.vars.length→mC f v<n→CG f K D →
 aR prog E 28 [xL f K P,.int .i64 v,.own jd f.vars.length] [(jd,.grow 1 3 (cI D))] (fun y O=>∃g:List Int,y=.int .i64 (dK f K v)∧O=[(jd,.grow 1 3 (cI g))]∧CG f K g)
set_option maxHeartbeats 16000000 in
theorem wA (f:ad) (hf:small f) (hR:bE f) (hv:f.vars.length≤1000) (K:KS) (hK:KB f K) (P:List aF) (jd n:Nat) (ih:DZ E f K P jd n):DZ E f K P jd (n+1):=by
 intro D v hvn hrk hKn
 refine yu (γ:=List Int) (x:=fun _=>.int .i64 (dK f K v)) (M:=fun g=>[(jd,.grow 1 3 (cI g))]) (p:=fun g=>CG f K g) ?_
 have flw:=fun a b c ha hb=>rK (E:=E) (P:=P) hv hK (a:=a) (b:=b) ha hb c
 have hM:=fun h=>kH (E:=E) f hf v h
 have hM2:=fun y h=>kI (E:=E) f hf v (x:=y) h
 have hDl:=hKn.len
 have hvD:v<D.length:=by omega
 obtain ⟨d0,hd0⟩:∃d0,D[v]?=some d0:=⟨_,qk hvD⟩
 have hdv:=hKn.val v d0 hd0
 have hrg:=sZ f K 100000 v
 change 0≤dK f K v∧dK f K v≤2 at hrg
 unfold DZ at ih
 unfold xL at *
 unfold bD at hM hM2
 refine zq func28 U (by decide) U<|ae<|ap U<|z6<|zd<|ae<|bz U<|aa U<|za (yp (j:=v) wz j6 U U U ⟨_,.head⟩ (by rw[aQ,hDl]) hvn)<|za (q3 (j:=v) j7 U ⟨_,.head⟩ hd0)<|bb U U<|z6<|zu U (fun c0=>?_) (fun c0=>?_)
 ·have hd1:d0=3+dK f K v:=hdv.resolve_left (by omega)
  refine ae<|bz U<|aa U<|za (yp (j:=v) wz j6 U U U ⟨_,.head⟩ (by rw[aQ,hDl]) hvn)<|za (q3 (j:=v) j7 U ⟨_,.head⟩ hd0)<|za (Gv.sub U U (by unfold lj;omega))<|ap U<|z6<|zi<|zm (x:=.int _ _) U ?_
  exact ⟨D,congrArg (AV.int .i64) (by omega),⟨_,.refl _,rfl⟩,hKn⟩
 ·rcases hm:b4 f v with _|x
  ·refine zg<|ae<|bg U<|za (yc U)<|ao jw U jf U U<|za (Gv.loadAF (l:=[_,_,_]) ju jf U U U)<|aa U<|ze (hM hm) U<|y6 (cs:=[.int .i64 0,.int .i64 0,.raw (.slice none 0 0),.int .i64 0]) Z4 U U<|fun i7=>y1 jv U U U U U U .head U<|zf (yf (t:=7) U .head)<|z6<|ae<|ab U<|ab U<|z6<|zd<|ae<|ao j5 U j6 U U<|ay j7 U<|ax U U<|z6<|yl U U<|ae<|bz U<|aa U<|za (yp (j:=v) wz j6 U U U ⟨_,.head⟩ (by rw[aQ,hDl]) hvn)<|q6 (j:=v) j6 U U .head hvD<|z6<|ae<|ap U<|z6<|zi<|zm (x:=.int _ _) U ?_
   exact ⟨D.set v 3,congrArg (AV.int .i64) (nV hR hm).symm,⟨_,.refl _,rfl⟩,hKn.put v (by rw[nV hR hm];rfl)⟩
  ·obtain ⟨hF,_,_⟩:=hR.madeF hm
   have hdst:=pP hm
   have a0:∀{k:Int},x.op=k→0<([0,1,2,2,2,2,2,2,2,2,1,2,1,2,3,1,0,1,2,1,1,2,2,2,1,2,2][k.toNat]?).getD 0→(∃a:Nat,bc x=a∧a<f.vars.length∧mC f a<n)∧0<x.args.length∧aJ f (bc x):=fun e h=>by
    have hl:0<x.args.length:=by rw[hF.cnt e];exact h
    have:=hR.rk0 hm hl
    have h2:=hF.a0 hl
    obtain ⟨a,ha⟩:=Int.eq_ofNat_of_zero_le h2.2
    rw[ha] at this h2 ⊢
    exact ⟨⟨a,rfl,by omega,by omega⟩,hl,bv h2⟩
   have a1:∀{k:Int},x.op=k→1<([0,1,2,2,2,2,2,2,2,2,1,2,1,2,3,1,0,1,2,1,1,2,2,2,1,2,2][k.toNat]?).getD 0→(∃a:Nat,bC x=a∧a<f.vars.length∧mC f a<n)∧1<x.args.length∧aJ f (bC x):=fun e h=>by
    have hl:1<x.args.length:=by rw[hF.cnt e];exact h
    have:=hR.rk1 hm hl
    have h2:=hF.a1 hl
    obtain ⟨a,ha⟩:=Int.eq_ofNat_of_zero_le h2.2
    rw[ha] at this h2 ⊢
    exact ⟨⟨a,rfl,by omega,by omega⟩,hl,bv h2⟩
   refine zg<|ae<|bg U<|za (yc U)<|ao jw U jf U U<|za (Gv.loadAF (l:=[_,_,_]) ju jf U U U)<|aa U<|ze (hM2 x hm) U<|y6 (cs:=[.int .i64 0,.int .i64 0,.raw (.slice none 0 0),.int .i64 0]) Z4 U U<|fun i7=>y1 jv U U U U U U .head U<|zf (yf (t:=7) U .head)<|z6<|ae<|ab U<|ab U<|z6<|zd<|ae<|ao j5 U j6 U U<|ay j7 U<|ax U U<|z6<|yg U (qy (by rw[hdst];omega))<|zg<|zd<|ae<|ao j5 U jy U U<|ay Z2 U<|z6<|ya (γ:=List Int × Bool × Bool) [1,2] (fun g=>[(8,.bool g.2.1),(9,.bool g.2.2)]) (fun g=>[(jd,.grow 1 3 (cI g.1))]) (fun g=>CG f K g.1∧dK f K v=fJ g.2.1 g.2.2) ?_ (fun _ _ h=>h) ?_
   ·refine zj<|ae<|ai U U<|ab U<|z6<|zu U (fun c8=>?_) (fun c8=>?_)
    ·have c8:x.op=8:=c8
     obtain ⟨_,l0,n0⟩:=a0 c8 (by decide)
     obtain ⟨_,l1,n1⟩:=a1 c8 (by decide)
     have hk:=Gr (K:=K) hR hm c8
     refine zw (fun j=>false) (by kernel_rfl) U (zh (.rest _))<|ak 0 U (gD U)<|ak 1 U (bx j5 U j8 U U)<|ak 2 U (dx j9 U)<|ak 3 U (bh 0 wz j6 U U U (bn l0))<|ak 4 U (b7 j7 U)<|ak 5 U (bx j5 U j8 U U)<|ak 6 U (dx j9 U)<|ak 7 U (bh 1 wz j6 U U U (bw l1))<|ak 8 U (b7 j7 U)<|ak 10 U (gD U)<|ak 11 U (bx j5 U j8 U U)<|ak 12 U (dx j9 U)<|ak 13 U (bh 1 wz j6 U U U (bw l1))<|ak 14 U (b7 j7 U)<|ak 15 U (bx j5 U j8 U U)<|ak 16 U (dx j9 U)<|ak 17 U (bh 0 wz j6 U U U (bn l0))<|ak 18 U (b7 j7 U)<|ba 9 U<|ze (flw _ _ (-1) n0 n1) U<|z6<|ba 19 U<|ze (flw _ _ 0 n1 n0) U<|z6<|ak 20 U (lT U)<|ak 21 U (lT U)<|bY ?_
     exact ⟨(D,_,_),(by repeat (first|with_reducible exact zp _ _|refine zz rfl ?_|exact cV)),cV,aD,⟨hKn,hk⟩⟩
    ·have c8:¬x.op=8:=c8
     refine ae<|ai U U<|ab U<|z6<|zu U (fun c9=>?_) (fun c9=>?_)
     ·have c9:x.op=9:=c9
      obtain ⟨_,l0,n0⟩:=a0 c9 (by decide)
      obtain ⟨_,l1,n1⟩:=a1 c9 (by decide)
      have hk:=Gs (K:=K) hR hm c9
      refine zw (fun j=>false) (by kernel_rfl) U (zh (.rest _))<|ak 0 U (gD U)<|ak 1 U (bx j5 U j8 U U)<|ak 2 U (dx j9 U)<|ak 3 U (bh 0 wz j6 U U U (bn l0))<|ak 4 U (b7 j7 U)<|ak 5 U (bx j5 U j8 U U)<|ak 6 U (dx j9 U)<|ak 7 U (bh 1 wz j6 U U U (bw l1))<|ak 8 U (b7 j7 U)<|ak 10 U (gD U)<|ak 11 U (bx j5 U j8 U U)<|ak 12 U (dx j9 U)<|ak 13 U (bh 1 wz j6 U U U (bw l1))<|ak 14 U (b7 j7 U)<|ak 15 U (bx j5 U j8 U U)<|ak 16 U (dx j9 U)<|ak 17 U (bh 0 wz j6 U U U (bn l0))<|ak 18 U (b7 j7 U)<|ba 9 U<|ze (flw _ _ 0 n0 n1) U<|z6<|ba 19 U<|ze (flw _ _ (-1) n1 n0) U<|z6<|ak 20 U (lT U)<|ak 21 U (lT U)<|bY ?_
      exact ⟨(D,_,_),(by repeat (first|with_reducible exact zp _ _|refine zz rfl ?_|exact cV)),cV,aD,⟨hKn,hk⟩⟩
     ·have c9:¬x.op=9:=c9
      refine ae<|ai U U<|ab U<|z6<|zu U (fun c7=>?_) (fun c7=>?_)
      ·have c7:x.op=7:=c7
       obtain ⟨_,l0,n0⟩:=a0 c7 (by decide)
       obtain ⟨_,l1,n1⟩:=a1 c7 (by decide)
       have hk:=Gt (K:=K) hR hm c7
       refine zd<|zw (fun j=>false) (by kernel_rfl) U (zh (.rest _))<|ak 0 U (bx j5 U j8 U U)<|ak 1 U (dx j9 U)<|ak 2 U (bh 0 wz j6 U U U (bn l0))<|ak 3 U (b7 j7 U)<|ak 4 U (bx j5 U j8 U U)<|ak 5 U (dx j9 U)<|ak 6 U (bh 1 wz j6 U U U (bw l1))<|ak 7 U (b7 j7 U)<|ak 8 U (mA U)<|ak 9 U (mA U)<|bY<|aO<|bg U<|aa U<|aa U<|ze (flw _ _ 0 n0 n1) U<|aj U<|zo (s:=98) U (fun c1=>?_) (fun c1=>?_)
       ·refine z8 U U c1<|bg U<|z8 U U c1<|aa U<|z8 U U c1<|aa U<|z8 U U c1<|ze (flw _ _ 0 n1 n0) U<|aq U c1 U<|bg U<|aa U<|aa U<|ze (flw _ _ (-1) n0 n1) U<|aj U<|zo (s:=108) U (fun c2=>?_) (fun c2=>?_)
        ·refine z7 U U c2<|z7 U U c2<|z7 U U c2<|z7 U U c2<|aq U c2 U<|ab U<|ab U<|z6 ?_
         exact ⟨(D,(b5 f K (bc x) (bC x) 0&&b5 f K (bC x) (bc x) 0),(b5 f K (bc x) (bC x) (-1)||b5 f K (bC x) (bc x) (-1))),(by repeat (first|with_reducible exact zp _ _|refine zz rfl ?_|exact cV)),⟨(by show AV.bool _=AV.bool _;simp_all),(by show AV.bool _=AV.bool _;simp_all),trivial⟩,aD,⟨hKn,hk⟩⟩
        ·refine z8 U U c2<|bg U<|z8 U U c2<|aa U<|z8 U U c2<|aa U<|z8 U U c2<|ze (flw _ _ (-1) n1 n0) U<|au U c2 U<|ab U<|ab U<|z6 ?_
         exact ⟨(D,(b5 f K (bc x) (bC x) 0&&b5 f K (bC x) (bc x) 0),(b5 f K (bc x) (bC x) (-1)||b5 f K (bC x) (bc x) (-1))),(by repeat (first|with_reducible exact zp _ _|refine zz rfl ?_|exact cV)),⟨(by show AV.bool _=AV.bool _;simp_all),(by show AV.bool _=AV.bool _;simp_all),trivial⟩,aD,⟨hKn,hk⟩⟩
       ·refine z7 U U c1<|z7 U U c1<|z7 U U c1<|z7 U U c1<|au U c1 U<|bg U<|aa U<|aa U<|ze (flw _ _ (-1) n0 n1) U<|aj U<|zo (s:=108) U (fun c3=>?_) (fun c3=>?_)
        ·refine z7 U U c3<|z7 U U c3<|z7 U U c3<|z7 U U c3<|aq U c3 U<|ab U<|ab U<|z6 ?_
         exact ⟨(D,(b5 f K (bc x) (bC x) 0&&b5 f K (bC x) (bc x) 0),(b5 f K (bc x) (bC x) (-1)||b5 f K (bC x) (bc x) (-1))),(by repeat (first|with_reducible exact zp _ _|refine zz rfl ?_|exact cV)),⟨(by show AV.bool _=AV.bool _;simp_all),(by show AV.bool _=AV.bool _;simp_all),trivial⟩,aD,⟨hKn,hk⟩⟩
        ·refine z8 U U c3<|bg U<|z8 U U c3<|aa U<|z8 U U c3<|aa U<|z8 U U c3<|ze (flw _ _ (-1) n1 n0) U<|au U c3 U<|ab U<|ab U<|z6 ?_
         exact ⟨(D,(b5 f K (bc x) (bC x) 0&&b5 f K (bC x) (bc x) 0),(b5 f K (bc x) (bC x) (-1)||b5 f K (bC x) (bc x) (-1))),(by repeat (first|with_reducible exact zp _ _|refine zz rfl ?_|exact cV)),⟨(by show AV.bool _=AV.bool _;simp_all),(by show AV.bool _=AV.bool _;simp_all),trivial⟩,aD,⟨hKn,hk⟩⟩
      ·have c7:¬x.op=7:=c7
       refine ae<|ai U U<|ab U<|z6<|zu U (fun c1=>?_) (fun c1=>?_)
       ·have c1:x.op=1:=c1
        obtain ⟨⟨a,ha,h1,h2⟩,l0,n0⟩:=a0 c1 (by decide)
        have hk:=Gu (K:=K) hR hm c1 l0
        rw[ha] at hk
        refine ae<|bg U<|ao j5 U j8 U U<|aI j9 U<|za (bh 0 wz j6 U U U (show x.args[0]?=some (a:Int) by rw[bn l0,ha]))<|ay j7 U<|bz U<|zr U (zh (.l (.rest _))) (ih D a h1 h2 hKn) ?_
        rintro r122 O122 ⟨g1,rfl,rfl,hk1⟩
        refine ap U<|z6<|aO<|aa U<|ai U U<|aa U<|ai U U<|ab U<|ab U<|z6 ?_
        exact ⟨(g1,decide (dK f K a=1),decide (dK f K a=2)),(by repeat (first|with_reducible exact zp _ _|refine zz rfl ?_|exact cV)),cV,aD,⟨hk1,by rw[hk];exact (Ap (sZ f K 100000 a)).symm⟩⟩
       ·have c1:¬x.op=1:=c1
        refine ae<|ai U U<|ab U<|z6<|zu U (fun c10=>?_) (fun c10=>?_)
        ·have c10:x.op=10:=c10
         obtain ⟨⟨a,ha,h1,h2⟩,l0,n0⟩:=a0 c10 (by decide)
         have hk:=Eo (K:=K) hR hm c10 l0
         rw[ha] at hk
         refine ae<|bg U<|ao j5 U j8 U U<|aI j9 U<|za (bh 0 wz j6 U U U (show x.args[0]?=some (a:Int) by rw[bn l0,ha]))<|ay j7 U<|bz U<|zr U (zh (.l (.rest _))) (ih D a h1 h2 hKn) ?_
         rintro r135 O135 ⟨g1,rfl,rfl,hk1⟩
         refine ap U<|z6<|aO<|aa U<|ai U U<|aa U<|ai U U<|ab U<|ab U<|z6 ?_
         exact ⟨(g1,decide (dK f K a=2),decide (dK f K a=1)),(by repeat (first|with_reducible exact zp _ _|refine zz rfl ?_|exact cV)),cV,aD,⟨hk1,hk⟩⟩
        ·have c10:¬x.op=10:=c10
         refine ae<|ai U U<|ab U<|z6<|zu U (fun c11=>?_) (fun c11=>?_)
         ·have c11:x.op=11:=c11
          obtain ⟨⟨a,ha,h1,h2⟩,l0,n0⟩:=a0 c11 (by decide)
          obtain ⟨⟨b,hb,g1,g2⟩,l1,n1⟩:=a1 c11 (by decide)
          have hk:=Ep (K:=K) hR hm c11 l1
          rw[ha,hb] at hk
          refine zd<|zw (fun j=>false) (by kernel_rfl) U (zh (.rest _))<|ak 0 U (gD U)<|ak 1 U (bx j5 U j8 U U)<|ak 2 U (dx j9 U)<|ak 3 U (bh 0 wz j6 U U U (show x.args[0]?=some (a:Int) by rw[bn l0,ha]))<|ak 4 U (b7 j7 U)<|ak 5 U (FE U)<|ak 7 U (gD U)<|ak 8 U (bx j5 U j8 U U)<|ak 9 U (dx j9 U)<|ak 10 U (bh 1 wz j6 U U U (show x.args[1]?=some (b:Int) by rw[bw l1,hb]))<|ak 11 U (b7 j7 U)<|ak 12 U (FE U)<|ba 6 U<|zr U (zh (.l (.rest _))) (ih D a h1 h2 hKn) ?_
          rintro r148 O148 ⟨e1,rfl,rfl,hk1⟩
          refine z6<|ba 13 U<|zr U (zh (.l (.rest _))) (ih e1 b g1 g2 hk1) ?_
          rintro r155 O155 ⟨e2,rfl,rfl,hk2⟩
          refine z6<|ak 14 U (mA U)<|ak 15 U (mA U)<|bY<|aO<|aa U<|ai U U<|aj U<|zo (s:=158) U (fun c4=>?_) (fun c4=>?_)
          ·refine z8 U U c4<|aa U<|z8 U U c4<|ai U U<|aq U c4 U<|aa U<|ai U U<|aj U<|zo (s:=164) U (fun c5=>?_) (fun c5=>?_)
           ·refine z7 U U c5<|z7 U U c5<|aq U c5 U<|ab U<|ab U<|z6 ?_
            exact ⟨(e2,(decide (dK f K a=1)&&decide (dK f K b=1)),(decide (dK f K a=2)||decide (dK f K b=2))),(by repeat (first|with_reducible exact zp _ _|refine zz rfl ?_|exact cV)),⟨(by show AV.bool _=AV.bool _;simp_all),(by show AV.bool _=AV.bool _;simp_all),trivial⟩,aD,⟨hk2,hk⟩⟩
           ·refine z8 U U c5<|aa U<|z8 U U c5<|ai U U<|au U c5 U<|ab U<|ab U<|z6 ?_
            exact ⟨(e2,(decide (dK f K a=1)&&decide (dK f K b=1)),(decide (dK f K a=2)||decide (dK f K b=2))),(by repeat (first|with_reducible exact zp _ _|refine zz rfl ?_|exact cV)),⟨(by show AV.bool _=AV.bool _;simp_all),(by show AV.bool _=AV.bool _;simp_all),trivial⟩,aD,⟨hk2,hk⟩⟩
          ·refine z7 U U c4<|z7 U U c4<|au U c4 U<|aa U<|ai U U<|aj U<|zo (s:=164) U (fun c6=>?_) (fun c6=>?_)
           ·refine z7 U U c6<|z7 U U c6<|aq U c6 U<|ab U<|ab U<|z6 ?_
            exact ⟨(e2,(decide (dK f K a=1)&&decide (dK f K b=1)),(decide (dK f K a=2)||decide (dK f K b=2))),(by repeat (first|with_reducible exact zp _ _|refine zz rfl ?_|exact cV)),⟨(by show AV.bool _=AV.bool _;simp_all),(by show AV.bool _=AV.bool _;simp_all),trivial⟩,aD,⟨hk2,hk⟩⟩
           ·refine z8 U U c6<|aa U<|z8 U U c6<|ai U U<|au U c6 U<|ab U<|ab U<|z6 ?_
            exact ⟨(e2,(decide (dK f K a=1)&&decide (dK f K b=1)),(decide (dK f K a=2)||decide (dK f K b=2))),(by repeat (first|with_reducible exact zp _ _|refine zz rfl ?_|exact cV)),⟨(by show AV.bool _=AV.bool _;simp_all),(by show AV.bool _=AV.bool _;simp_all),trivial⟩,aD,⟨hk2,hk⟩⟩
         ·have c11:¬x.op=11:=c11
          have hk:=xB (K:=K) hR hm ⟨c8,c9,c7,c1,c10,c11⟩
          refine zg ?_
          exact ⟨(D,false,false),(by repeat (first|with_reducible exact zp _ _|refine zz rfl ?_|exact cV)),cV,aD,⟨hKn,hk⟩⟩
   ·rintro ⟨g,p,q⟩ ⟨hk1,hk2⟩
    dsimp only at hk1 hk2 ⊢
    have hgl:=hk1.len
    have hvg:v<g.length:=by omega
    refine zd<|ya (γ:=List Int) [1,2] (fun e=>[]) (fun e=>[(jd,.grow 1 3 (cI e))]) (fun e=>e=g.set v (3+dK f K v)) ?_ (fun _ _ h=>h) ?_
    ·refine zj<|ae<|aj U<|ab U<|z6<|zy U (fun cp=>?_) (fun cp=>?_)
     ·have cp:p=true:=cp
      have h4:3+dK f K v=4:=by rw[hk2,cp];rfl
      refine aO<|bz U<|aa U<|za (yp (j:=v) wz j6 U U U ⟨_,.head⟩ (by rw[aQ,hgl]) hvn)<|q6 (j:=v) j6 U U .head hvg<|z6 ?_
      exact ⟨(g.set v 4),(by repeat (first|with_reducible exact zp _ _|refine zz rfl ?_|exact cV)),trivial,aD,by rw[h4]⟩
     ·have cp:p=false:=cp
      refine ae<|aj U<|ab U<|z6<|zy U (fun cq=>?_) (fun cq=>?_)
      ·have cq:q=true:=cq
       have h4:3+dK f K v=5:=by rw[hk2,cp,cq];rfl
       refine aO<|bz U<|aa U<|za (yp (j:=v) wz j6 U U U ⟨_,.head⟩ (by rw[aQ,hgl]) hvn)<|q6 (j:=v) j6 U U .head hvg<|z6 ?_
       exact ⟨(g.set v 5),(by repeat (first|with_reducible exact zp _ _|refine zz rfl ?_|exact cV)),trivial,aD,by rw[h4]⟩
      ·have cq:q=false:=cq
       have h4:3+dK f K v=3:=by rw[hk2,cp,cq];rfl
       refine aO<|bz U<|aa U<|za (yp (j:=v) wz j6 U U U ⟨_,.head⟩ (by rw[aQ,hgl]) hvn)<|q6 (j:=v) j6 U U .head hvg<|z6 ?_
       exact ⟨(g.set v 3),(by repeat (first|with_reducible exact zp _ _|refine zz rfl ?_|exact cV)),trivial,aD,by rw[h4]⟩
    ·rintro e he
     subst he
     refine ae<|bz U<|aa U<|za (yp (j:=v) wz j6 U U U ⟨_,.head⟩ (by rw[aQ,List.length_set,hgl]) hvn)<|za (q3 (j:=v) j7 U ⟨_,.head⟩ (show (g.set v (3+dK f K v))[v]?=some (3+dK f K v) by rw[List.getElem?_set,if_pos rfl,if_pos hvg])) ?_
     refine za (Gv.sub U U (by unfold lj;omega))<|ap U<|z6<|zi<|zm (x:=.int _ _) U ?_
     exact ⟨g.set v (3+dK f K v),congrArg (AV.int .i64) (by omega),⟨_,.refl _,rfl⟩,hk1.put v rfl⟩
theorem rN (f:ad) (hf:small f) (hR:bE f) (hv:f.vars.length≤1000) (K:KS) (hK:KB f K) (P:List aF) (jd:Nat):∀n,DZ E f K P jd n
 |0=>fun _ _ _ h=>by omega
 |n+1=>wA f hf hR hv K hK P jd n (rN f hf hR hv K hK P jd n)
theorem D0 {f:ad} {K:KS} {P:List aF} {iw jl jp:Nat} (hf:small f) (hR:bE f) (hK:KB f K) (jd v:Nat) (hvn:v<f.vars.length) :
  aR prog E 28 [.po iw 0,.int .i64 v,.own jd f.vars.length] (li f iw jl jp K P++[(jd,.grow 1 3 (cI (List.replicate f.vars.length 0)))]) (fun y O=>∃O'',(∃g:List Int,y=.int .i64 (dK f K v)∧O''=[(jd,.grow 1 3 (cI g))])∧O=li f iw jl jp K P++O''):=by
 refine aR.lendToH (Q:=fun y O=>∃g:List Int,y=.int .i64 (dK f K v)∧O=[(jd,.grow 1 3 (cI g))]) Cp (fun I J y O v h hv=>?_) (fun I J y O B hh h hB=>?_) ((rN f hf hR hf.1 K hK P jd 100000 (List.replicate f.vars.length 0) v hvn (hR.rk_low v) (CG.emp f K)).mono fun y O ⟨es,h1,h2,_⟩=>⟨es,h1,h2⟩)
 ·obtain ⟨g,rfl,_⟩:=h
  exact hv
 ·obtain ⟨g,_,rfl⟩:=h
  exact Ao hh hB
end Go.Proofs.YtdilpodccjlkgaaGreatDoor
namespace Go.Proofs.YtdilpodccjlkgaaGreatDoor
open Go.Proofs.Tryz
open Go.Proofs Go.Lib Go.Shelf Go.RowKit
variable {E:World}
set_option maxRecDepth 20000
def Aq (f:ad) (l:List Int):KS:=l.foldl (fun K a=>nI f (fK f K a) a) (cT f)
def D1 (f:ad) (l:List Int):List aF:=l.foldl (fun P a=>(gW f a).insts.foldl gV P) []
theorem wC (f:ad):∀l:List Int,qE f l=Aq f l.reverse
 |[]=>rfl
 |b::l=>by
  rw[List.reverse_cons]
  unfold Aq
  rw[List.foldl_append]
  show nI f (fK f (qE f l) b) b=_
  rw[wC f l];rfl
theorem D2 (f:ad) {l:List Int} {g:Nat} {a:Int} (h:l[g]?=some a):Aq f (l.take (g+1))=nI f (fK f (Aq f (l.take g)) a) a:=by
 unfold Aq
 rw[List.take_add_one,h,List.foldl_append];rfl
theorem Cy (f:ad) {l:List Int} {g:Nat} {a:Int} (h:l[g]?=some a):D1 f (l.take (g+1))=(gW f a).insts.foldl gV (D1 f (l.take g)):=by
 unfold D1
 rw[List.take_add_one,h,List.foldl_append];rfl
theorem D3 (f:ad):(cT f).p=[]:=by
 unfold cT
 have:∀(l:List Int) (K:KS),(l.foldl (dU f) K).p=K.p:=fun l=>by
  induction l with
  |nil=>exact fun _=>rfl
  |cons v l ih=>exact fun K=>by rw[List.foldl_cons,ih,wu]
 rw[this]
theorem f8.emp (f:ad):f8 (cT f) []:=⟨D3 f,by decide,fun x hx=>by cases hx⟩
theorem f8.entr {f:ad} {K:KS} {P:List aF} (h:f8 K P) (a:Int):f8 (fK f K a) P:=⟨by unfold fK;rw[pC];exact h.eq,h.len,h.arg⟩
theorem Ar {f:ad} {x:aF} (hF:dg f x):x.args.length≤3:=by
 have h:=hF.cnt (k:=x.op) rfl
 have:∀k:Nat,([0,1,2,2,2,2,2,2,2,2,1,2,1,2,3,1,0,1,2,1,1,2,2,2,1,2,2][k]?).getD 0≤3:=fun k=>by
  by_cases hk:k<27
  ·have:∀j:Fin 27,([0,1,2,2,2,2,2,2,2,2,1,2,1,2,3,1,0,1,2,1,1,2,2,2,1,2,2][j.val]?).getD 0≤3:=by decide
   exact this ⟨k,hk⟩
  ·rw[List.getElem?_eq_none (by simpa using hk)];decide
 have:=this x.op.toNat
 omega
theorem Cz (P:List aF) (x:aF):(gV P x).length≤P.length+1:=by
 unfold gV
 split
 ·rw[qq];exact Nat.le_refl _
 ·omega
section
variable {f:ad} (hR:bE f)
include hR
theorem rO:∀(m:Nat) (b:Int),(0≤b∧b<f.blocks.length)→∀c∈cN (bl (ah f) f.blocks.length) m b,0≤c∧c<f.blocks.length
 |0,_,_,c,hc=>by cases hc
 |m+1,b,hb,c,hc=>by
  unfold cN at hc
  rcases List.mem_cons.1 hc with rfl|hc
  ·exact hb
  ·split at hc
   ·cases hc
   ·rename_i h0
    obtain ⟨g1,_⟩:=hR.hE.grph.near_mem (hR.memO hb) h0
    exact rO m _ (b3 hR.hE.grph.toEOk g1) c hc
theorem Fp {b:Int} (hb:0≤b∧b<f.blocks.length):∀c∈upT f b,0≤c∧c<f.blocks.length:=rO hR _ b hb
theorem va {b:Int} (hb:0≤b∧b<f.blocks.length):(upT f b).reverse=(upT f b).tail.reverse++[b]∧∀c∈(upT f b).tail,c≠b:=by
 have hup:=hR.upT hb
 refine ⟨(by (conv=>lhs;rw[hup]);(conv=>rhs;rw[hup]);rw[List.reverse_cons];rfl),fun c hc=>?_⟩
 rw[hup,List.tail_cons] at hc
 split at hc
 ·cases hc
 ·rename_i h0
  obtain ⟨g1,_⟩:=hR.hE.grph.near_mem (hR.memO hb) h0
  have hp:=b3 hR.hE.grph.toEOk g1
  refine ((hR.near_dom hb h0).2 ((hR.domF c _).1 ?_)).2
  obtain ⟨q,hq⟩:∃q:Nat,gi (bl (ah f) f.blocks.length) b=(q:Int):=⟨(gi (bl (ah f) f.blocks.length) b).toNat,by omega⟩
  rw[hq] at hp hc ⊢
  have hl:=hR.lev (i:=q) (by omega)
  unfold Go.Proofs.YtdilpodccjlkgaaGreatDoor.domF er
  rw[qz]
  exact ⟨qx (by omega),List.contains_iff_mem.2 hc⟩
theorem GH {b:Int} (hb:0≤b∧b<f.blocks.length) {g:Nat} {a:Int} (h:(upT f b).reverse[g]?=some a):(a=b↔g+1=(upT f b).length)∧(a=b→Aq f ((upT f b).reverse.take g)=qE f (upT f b).tail):=by
 obtain ⟨h1,h2⟩:=va hR hb
 have hl:(upT f b).length=(upT f b).tail.length+1:=by rw[hR.upT hb];rfl
 rw[h1] at h ⊢
 by_cases hg:g<(upT f b).tail.length
 ·rw[List.getElem?_append_left (by rw[List.length_reverse];exact hg)] at h
  have:=h2 a (List.mem_reverse.1 (qu h))
  exact ⟨⟨fun e=>absurd e this,fun e=>by omega⟩,fun e=>absurd e this⟩
 ·rw[List.getElem?_append_right (by rw[List.length_reverse];omega),List.length_reverse] at h
  have he:g - (upT f b).tail.length=0:=by
   cases hd:g - (upT f b).tail.length with
   |zero=>rfl
   |succ k=>rw[hd] at h;cases h
  rw[he] at h
  obtain rfl:b=a:=Option.some.inj h
  refine ⟨⟨fun _=>by omega,fun _=>rfl⟩,fun _=>?_⟩
  rw[List.take_append_of_le_length (by rw[List.length_reverse];omega),List.take_of_length_le (by rw[List.length_reverse];omega),wC]
end
def CH (f:ad) (b:Nat) (g:Nat):List Bool:=ip f b++if g=(upT f b).length then CD f b else[]
def vb (f:ad) (b g:Nat) (K:KS) (l:List aF):List Bool:=ip f b++if g+1=(upT f b).length then pW f K l else[]
set_option maxHeartbeats 16000000 in
theorem wD (f:ad) (hf:small f) (hR:bE f):aK prog E 11 [.agg (bD f)] (.tup [.fro 1 ((Fb f).map nF),.fro 1 ((xH f).map cW)]):=by
 have hf3:=hf.2.2.1
 have hv:=hf.1
 have hnb:=hR.nblk
 have htab:=qM (E:=E) f hR.hE hf3
 have hfir:=sX (E:=E) hf
 have habv:=fun b h=>mz (E:=E) hR hf3 2000 b h
 have hent:=fun iw jl jp K P hK i hi=>u6 (E:=E) (K:=K) (P:=P) (iw:=iw) (jl:=jl) (jp:=jp) hf hR hK i hi
 have haft:=fun iw jl jp K P hK hP hPl x hF hT=>uZ (E:=E) (f:=f) (K:=K) (P:=P) (iw:=iw) (jl:=jl) (jp:=jp) hv hK hP hPl x hF hT
 have hprv:=fun iw jl jp K P hK hP x hF hc=>GD (E:=E) (f:=f) (K:=K) (P:=P) (iw:=iw) (jl:=jl) (jp:=jp) hv hK hf hP x hF hc
 have hdec:=fun iw jl jp K P hK jd v hvn=>D0 (E:=E) (f:=f) (K:=K) (P:=P) (iw:=iw) (jl:=jl) (jp:=jp) hf hR hK jd v hvn
 unfold li at *
 refine zq func11 U (by decide) U<|ae<|y9 (cs:=_) U U U<|bF U<|bF U<|z6<|ae<|ac ju jf U U<|ze (htab) U<|za (kO U)<|z6<|ae<|bF U<|z6<|ae<|bF U<|z6<|zd<|ae<|ao jg U Z6 U U<|aI Zd U<|ar jk U<|aa U<|z6<|fo (t:=5) (k:=1) (T:=4) U<|fun i5=>fo (t:=6) (k:=1) (T:=3) U<|fun i6=>zj<|y8 (γ:=Nat × Nat × Nat) [1,4,18] (fun g=>[(19,.int .i64 g.1),(5,.own g.2.1 (ip f g.1).length),(6,.own g.2.2 g.1)]) (fun g=>[(g.2.2,.grow 1 3 (cI ((xH f).take g.1))),(g.2.1,.grow 1 4 (cB (ip f g.1)))]) (fun g=>g.1≤f.blocks.length) (fun g=>f.blocks.length - g.1) (0,i5,i6) de aD (qn _) ?_
 rintro ⟨b,pv,dd⟩ hb
 try dsimp only at *
 refine ae<|ax U U<|z6<|zd<|zu U (fun cb=>?_) (fun cb=>?_)
 ·have hb2:b<f.blocks.length:=by omega
  have hbr:0≤(b:Int)∧(b:Int)<f.blocks.length:=⟨by omega,by omega⟩
  have hul:(upT f (b:Int)).length≤f.blocks.length:=ld ..
  have hur:=Fp hR hbr
  have hua:=fun g a h=>GH hR hbr (g:=g) (a:=a) h
  have hu1:0<(upT f (b:Int)).length:=by rw[hR.upT hbr];simp
  have hpt:=mv hR b hb
  have hlev:=hR.lev hb2
  have hBg:=qk hb2
  obtain ⟨B,hBe⟩:∃B,f.blocks[b]=B:=⟨_,rfl⟩
  rw[hBe] at hBg
  have hbG:=fw hBg
  have hpb:(CD f b).length≤1024:=by
   have h1:=jE _ _ (qu hBg)
   have h2:=hR.hS.2.2.2.2.1
   have h3:Fc B.insts≤B.insts.length:=List.length_filter_le _ _
   rw[xu hBg];omega
  refine zg<|zd<|zj<|ae<|aa U<|ap U<|z6<|ae<|ac ju jf U U<|zr U (zh (.r (.r (.rest _)))) (hfir) ?_
  rintro r23 O23 ⟨⟨iw,jl,jp⟩,rfl,rfl,_⟩
  refine za (gc U)<|z6<|zd<|ae<|aT U<|aa U<|zr U (zh (.r (.r (.r (.r (.r (.rest _))))))) (habv b hb2 (by omega)) ?_
  rintro r26 O26 ⟨ia,rfl,rfl,_⟩
  refine za (Gv.lenO wz U)<|aa U<|z6<|y3 (aX.knowI (t:=26) U .head (by rw[List.length_reverse])) ?_
  obtain ⟨L,hL⟩:∃L,(upT f (b:Int)).reverse=L:=⟨_,rfl⟩
  have hLl:L.length=(upT f (b:Int)).length:=by rw[←hL,List.length_reverse]
  rw[hL] at hua ⊢
  refine zj<|y8 (γ:=Nat × Nat × Nat × Nat) [1,4,6,7,8,18,19,26,27] (fun g=>[(28,.int .i64 g.1),(5,.own g.2.2.2 (CH f b g.1).length)]) (fun g=>[(iw,.cells 109 (mx f g.2.1 (Aq f (L.take g.1)).l.length g.2.2.1 ((D1 f (L.take g.1))).length)),(g.2.1,.grow 3 145 ((Aq f (L.take g.1)).l.map bf).flatten),(g.2.2.1,.grow 4 54 (((D1 f (L.take g.1))).map aP).flatten),(dd,.grow 1 3 (cI ((xH f).take b))),(g.2.2.2,.grow 1 4 (cB (CH f b g.1)))]) (fun g=>(g.1≤L.length∧KB f (Aq f (L.take g.1)))∧f8 (Aq f (L.take g.1)) (D1 f (L.take g.1))∧(D1 f (L.take g.1)).length≤g.1*1024) (fun g=>L.length - g.1) (0,jl,jp,pv) ⟨U,by show AV.own pv _=AV.own pv _;unfold CH;rw[if_neg (by omega),qw],trivial⟩ ⟨_,(.refl _),by unfold CH;rw[if_neg (by omega),qw];rfl⟩ (⟨⟨qn _,KB.first⟩,f8.emp f,Nat.le_refl _⟩) ?_
  rintro ⟨g,jq,jr,pw⟩ ⟨⟨hg,hKB⟩,hPO,hPL⟩
  try dsimp only at *
  refine ae<|ax U U<|z6<|zd<|zu U (fun cg=>?_) (fun cg=>?_)
  ·have hg2:g<L.length:=by omega
   obtain ⟨a0,hag⟩:∃a0,L[g]?=some a0:=⟨_,qk hg2⟩
   have har:=hur a0 (by have:=qu hag;rw[←hL] at this;exact List.mem_reverse.1 this)
   obtain ⟨hae,hak⟩:=hua g a0 hag
   obtain ⟨a,ha⟩:=Int.eq_ofNat_of_zero_le har.1
   subst ha
   have ha2:a<f.blocks.length:=by omega
   have hAg:=qk ha2
   obtain ⟨A,hAe⟩:∃A,f.blocks[a]=A:=⟨_,rfl⟩
   rw[hAe] at hAg
   have haG:=fw hAg
   have hsn:=D2 f hag
   have hsp:=Cy f hag
   have hAm:=qu hAg
   have hAl:A.insts.length≤1024:=by
    have h1:=jE _ _ hAm
    have h2:=hR.hS.2.2.2.2.1
    omega
   have hAF:∀x∈A.insts,dg f x:=fun x hx=>(hR.run.insts _ hAm x hx).1
   have hAT:∀x∈A.insts,ft f x=true:=by
    have:=hR.hT A hAm
    unfold ii at this
    simp only[qz,w3] at this
    exact fun x hx=>this.1.2 x hx
   rw[haG] at hsp
   unfold nI at hsn
   rw[haG] at hsn
   obtain ⟨Kg,hKg⟩:∃Kg,Aq f (L.take g)=Kg:=⟨_,rfl⟩
   obtain ⟨Pg,hPg⟩:∃Pg,D1 f (L.take g)=Pg:=⟨_,rfl⟩
   rw[hKg] at hKB hPO hsn hak
   rw[hPg] at hPO hPL hsp
   rw[hKg,hPg]
   have hprb:g+1=(upT f (b:Int)).length→pW f (fK f Kg a) A.insts=CD f b:=fun h=>by
    have e:a=b:=by have:=hae.2 h;omega
    subst e
    unfold CD gX
    rw[haG,←hak rfl]
   have hpu:CH f b g=ip f b:=by unfold CH;rw[if_neg (by omega),qw]
   rw[hpu]
   refine zg<|zd<|zj<|ae<|za (bh g wz j6 U U U hag)<|ay j7 U<|ap U<|z6<|ae<|aE U<|aa U<|zr U (zh (.l (.l (.l (.r (.r (.rest _))))))) (hent iw jq jr Kg Pg hKB a ha2) ?_
   rintro r34 O34 ⟨j1,rfl,rfl,_⟩
   refine z6 ?_
   have hKa:=hKB.entr hR (a:Int)
   have hPa:=hPO.entr (f:=f) (a:Int)
   obtain ⟨Ka,hKae⟩:∃Ka,fK f Kg (a:Int)=Ka:=⟨_,rfl⟩
   rw[hKae] at hKa hPa hsn hprb
   rw[hKae]
   refine ae<|ao jg U Z6 U U<|aI Zd U<|aa U<|za (bh a jk Z0 U U U hAg)<|ao jj U Zo U U<|aI Zx U<|ar jz U<|aa U<|z6<|zj<|y8 (γ:=Nat × Nat × Nat × Nat) [1,4,6,7,8,10,18,19,26,27,28,40,41] (fun j=>[(42,.int .i64 j.1),(5,.own j.2.2.2 (vb f b g Ka (A.insts.take j.1)).length)]) (fun j=>[(iw,.cells 109 (mx f j.2.1 ((A.insts.take j.1).foldl (dk f) Ka).l.length j.2.2.1 (((A.insts.take j.1).foldl gV Pg)).length)),(j.2.1,.grow 3 145 (((A.insts.take j.1).foldl (dk f) Ka).l.map bf).flatten),(j.2.2.1,.grow 4 54 ((((A.insts.take j.1).foldl gV Pg)).map aP).flatten),(dd,.grow 1 3 (cI ((xH f).take b))),(j.2.2.2,.grow 1 4 (cB (vb f b g Ka (A.insts.take j.1))))]) (fun j=>(j.1≤A.insts.length∧KB f ((A.insts.take j.1).foldl (dk f) Ka))∧f8 ((A.insts.take j.1).foldl (dk f) Ka) ((A.insts.take j.1).foldl gV Pg)∧((A.insts.take j.1).foldl gV Pg).length≤g*1024+j.1) (fun j=>A.insts.length - j.1) (0,j1,jr,pw) ⟨U,by show AV.own pw _=AV.own pw _;unfold vb pW;simp,trivial⟩ ⟨_,(.refl _),by show _++_=_;unfold vb pW;simp⟩ (⟨⟨qn _,hKa⟩,hPa,hPL⟩) ?_
   rintro ⟨j,js,jt,pz⟩ ⟨⟨hj,hKJ⟩,hPJ,hPJL⟩
   try dsimp only at *
   refine ae<|ax U U<|z6<|zd<|zu U (fun cj=>?_) (fun cj=>?_)
   ·have hj2:j<A.insts.length:=by omega
    obtain ⟨x,hx⟩:∃x,A.insts[j]?=some x:=⟨_,qk hj2⟩
    have hxm:=qu hx
    have hF:=hAF x hxm
    have hT:=hAT x hxm
    have hx3:=Ar hF
    have hop:=hF.op
    have hsK:(A.insts.take (j+1)).foldl (dk f) Ka=dk f ((A.insts.take j).foldl (dk f) Ka) x:=by rw[List.take_add_one,hx,List.foldl_append];rfl
    have hsP:(A.insts.take (j+1)).foldl gV Pg=gV ((A.insts.take j).foldl gV Pg) x:=by rw[List.take_add_one,hx,List.foldl_append];rfl
    have hpw:=pM (f:=f) (K:=Ka) hx
    obtain ⟨Kj,hKj⟩:∃Kj,(A.insts.take j).foldl (dk f) Ka=Kj:=⟨_,rfl⟩
    obtain ⟨Pj,hPj⟩:∃Pj,(A.insts.take j).foldl gV Pg=Pj:=⟨_,rfl⟩
    rw[hKj] at hKJ hPJ hsK hpw
    rw[hPj] at hPJ hPJL hsP
    rw[hKj,hPj]
    have hpil:(vb f b g Ka (A.insts.take j)).length≤100000:=by
     have h1:(pW f Ka (A.insts.take j)).length≤1024:=by
      rw[nU]
      have h2:Fc (A.insts.take j)≤(A.insts.take j).length:=List.length_filter_le _ _
      rw[List.length_take] at h2
      omega
     unfold vb
     rw[qq]
     split
     ·omega
     ·simp;omega
    have hPj2:Pj.length<1000000:=by omega
    refine zg<|zd<|zj<|ae<|za (bh j jz jv U U U hx)<|ac Zk jv U U<|y6 (cs:=[.int .i64 0,.int .i64 0,.raw (.slice none 0 0),.int .i64 0]) Z4 U U<|fun i12=>y1 jv U U U U U U .head U<|zf (yf (t:=12) U .head)<|z6 ?_
    have hchk:=nt (E:=E) x.op hop
    refine zd<|zd<|ya (γ:=Bool) [1,4,5,6,7,8,10,12,18,19,26,27,28,40,41,42] (fun u=>[(54,.bool u)]) (fun u=>[(iw,.cells 109 (mx f js Kj.l.length jt (Pj).length)),(js,.grow 3 145 (Kj.l.map bf).flatten),(jt,.grow 4 54 ((Pj).map aP).flatten),(dd,.grow 1 3 (cI ((xH f).take b))),(pz,.grow 1 4 (cB (vb f b g Ka (A.insts.take j))))]) (fun u=>u=(decide ((a:Int)=b)&&kC x)) ?_ (fun _ _ h=>h) ?_
    ·clear hsK hsP hpw hKJ hPJ hsn hsp hprb hae hak hua hur hent haft hprv hdec hfir habv hAF hAT hF hT
     by_cases hcc:18≤x.op∧x.op≤24
     ·have hck:kC x=true:=qx hcc
      rw[hck]
      rw[if_pos hcc] at hchk
      refine aO<|aa U<|aa U<|ai U U<|aj U<|zo (s:=49) U (fun c1=>?_) (fun c1=>?_)
      ·refine z8 U U c1<|ao j5 U jy U U<|z8 U U c1<|ay Z2 U<|z8 U U c1<|ze (hchk) U<|z8 U U c1<|bb U U<|aq U c1 U<|z6 ?_
       exact ⟨_,(by repeat (first|with_reducible exact zp _ _|refine zz rfl ?_|exact ⟨rfl,rfl,rfl,rfl,rfl,rfl,rfl,rfl,rfl,rfl,rfl,rfl,rfl,rfl,rfl,rfl,trivial⟩)),aH,aD,by simp_all<;>omega⟩
      ·refine z7 U U c1<|z7 U U c1<|z7 U U c1<|z7 U U c1<|au U c1 U<|z6 ?_
       exact ⟨_,(by repeat (first|with_reducible exact zp _ _|refine zz rfl ?_|exact ⟨rfl,rfl,rfl,rfl,rfl,rfl,rfl,rfl,rfl,rfl,rfl,rfl,rfl,rfl,rfl,rfl,trivial⟩)),aH,aD,by simp_all<;>omega⟩
     ·have hck:kC x=false:=qy hcc
      rw[hck]
      rw[if_neg hcc] at hchk
      refine aO<|aa U<|aa U<|ai U U<|aj U<|zo (s:=49) U (fun c2=>?_) (fun c2=>?_)
      ·refine z8 U U c2<|ao j5 U jy U U<|z8 U U c2<|ay Z2 U<|z8 U U c2<|ze (hchk) U<|z8 U U c2<|bb U U<|aq U c2 U<|z6 ?_
       exact ⟨_,(by repeat (first|with_reducible exact zp _ _|refine zz rfl ?_|exact ⟨rfl,rfl,rfl,rfl,rfl,rfl,rfl,rfl,rfl,rfl,rfl,rfl,rfl,rfl,rfl,rfl,trivial⟩)),aH,aD,by simp_all⟩
      ·refine z7 U U c2<|z7 U U c2<|z7 U U c2<|z7 U U c2<|au U c2 U<|z6 ?_
       exact ⟨_,(by repeat (first|with_reducible exact zp _ _|refine zz rfl ?_|exact ⟨rfl,rfl,rfl,rfl,rfl,rfl,rfl,rfl,rfl,rfl,rfl,rfl,rfl,rfl,rfl,rfl,trivial⟩)),aH,aD,by simp_all⟩
    ·rintro u hu
     refine ya (γ:=Nat) [1,4,6,7,8,10,12,18,19,26,27,28,40,41,42] (fun p2=>[(5,.own p2 (vb f b g Ka (A.insts.take (j+1))).length)]) (fun p2=>[(iw,.cells 109 (mx f js Kj.l.length jt (Pj).length)),(js,.grow 3 145 (Kj.l.map bf).flatten),(jt,.grow 4 54 ((Pj).map aP).flatten),(dd,.grow 1 3 (cI ((xH f).take b))),(p2,.grow 1 4 (cB (vb f b g Ka (A.insts.take (j+1)))))]) (fun p2=>True) ?_ (fun _ _ h=>h) ?_
     ·refine zy U (fun cu=>?_) (fun cu=>?_)
      ·have hu2:(a:Int)=b∧kC x=true:=by rw[hu] at cu;simpa using cu
       have hcc:18≤x.op∧x.op≤24:=w4 hu2.2
       have hg1:=hae.1 hu2.1
       have hpn:vb f b g Ka (A.insts.take (j+1))=vb f b g Ka (A.insts.take j)++[kB f Kj x]:=by
        unfold vb
        rw[if_pos hg1,if_pos hg1,hpw,if_pos hu2.2,qm]
       refine aO<|bz U<|aE U<|ac Zk jv U U<|zr U (zh (.l (.l (.l (.r (.r (.rest _))))))) (hprv iw js jt Kj Pj hKJ hPJ x hF hcc) ?_
       rintro r58 O58 ⟨rfl,rfl⟩
       refine y4 (rows:=[[_]]) Ck U U U U U<|yj (k:=1) jx type4 U U U U U (fun _=>.t4) (by rw[aW];omega) (by decide) U (by show (_+_)*1≤_;simp<;>omega) (by simp<;>omega)<|fun i60=>zf (zb (zc .t4))<|zf (zb (zc .t4))<|zf (zb (zc .t4))<|zf (zb (zc .t4))<|zf (zb (zc .t4))<|za (gZ U)<|z6 ?_
       exact ⟨i60,(by repeat (first|with_reducible exact zp _ _|refine zz rfl ?_|exact ⟨rfl,rfl,rfl,rfl,rfl,rfl,rfl,rfl,rfl,rfl,rfl,rfl,rfl,rfl,rfl,trivial⟩)),⟨(by show AV.own i60 _=AV.own i60 _;rw[hpn,qq];rfl),trivial⟩,⟨_,(.refl _),by rw[hpn,←xG];rfl⟩,trivial⟩
      ·have hpn:vb f b g Ka (A.insts.take (j+1))=vb f b g Ka (A.insts.take j):=by
        unfold vb
        by_cases hg1:g+1=(upT f (b:Int)).length
        ·rw[if_pos hg1,if_pos hg1,hpw,if_neg (fun h=>by rw[hu,h,qx (hae.2 hg1)] at cu;cases cu),qw]
        ·rw[if_neg hg1,if_neg hg1]
       refine zg ?_
       exact ⟨pz,(by repeat (first|with_reducible exact zp _ _|refine zz rfl ?_|exact ⟨rfl,rfl,rfl,rfl,rfl,rfl,rfl,rfl,rfl,rfl,rfl,rfl,rfl,rfl,rfl,trivial⟩)),⟨(by show AV.own pz _=AV.own pz _;rw[hpn]),trivial⟩,⟨_,(.refl _),by rw[hpn]⟩,trivial⟩
     ·rintro p2 _
      refine aO<|aE U<|ac Zk jv U U<|zr U (zh (.l (.l (.l (.r (.r (.rest _))))))) (haft iw js jt Kj Pj hKJ hPJ hPj2 x hF hT) ?_
      rintro r63 O63 ⟨⟨j3,j4⟩,rfl,rfl,_⟩
      refine z6<|aO<|aC U U<|aa U<|z6 ?_
      exact ⟨(j+1,j3,j4,p2),⟨rfl,rfl,rfl,rfl,rfl,rfl,rfl,rfl,rfl,rfl,rfl,rfl,rfl,trivial⟩,cV,⟨_,(.refl _),by rw[hsK,hsP];rfl⟩,⟨⟨hj2,by rw[hsK];exact hKJ.stp hF⟩,by rw[hsK,hsP];exact hPJ.stp hPj2 (by omega),by dsimp only;rw[hsP];have:=Cz Pj x;omega⟩,by dsimp only;omega⟩
   ·obtain rfl:j=A.insts.length:=by omega
    rw[qp] at hKJ hPJ hPJL ⊢
    have hpi:vb f b g Ka A.insts=CH f b (g+1):=by
     unfold vb CH
     by_cases hg1:g+1=(upT f (b:Int)).length
     ·rw[if_pos hg1,if_pos hg1,hprb hg1]
     ·rw[if_neg hg1,if_neg hg1]
    rw[hpi]
    refine y7<|aO<|aC U U<|aa U<|z6 ?_
    exact ⟨(g+1,js,jt,pz),n8,cV,⟨_,(.refl _),by rw[hsn,hsp]⟩,⟨⟨hg2,by rw[hsn];exact hKJ⟩,by rw[hsn,hsp];exact hPJ,by dsimp only;rw[hsp];omega⟩,by dsimp only;omega⟩
  ·obtain rfl:g=L.length:=by omega
   rw[qp] at hKB hPO hPL ⊢
   have hpu:CH f b L.length=ip f (b+1):=by unfold CH;rw[if_pos hLl,m5 hb2]
   rw[hpu]
   have hend:Aq f L=nI f (gX f b) b:=by
    have h1:=(va hR hbr).1
    rw[hL] at h1
    unfold gX
    rw[wC,h1]
    unfold Aq
    rw[List.foldl_append];rfl
   have hde:(xH f).take (b+1)=(xH f).take b++[iK f b]:=by
    have:(xH f)[b]?=some (iK f b):=by unfold xH;rw[qs,my hb2];rfl
    rw[List.take_add_one,this];rfl
   have hdl:((xH f).take b).length=b:=by unfold xH;rw[List.length_take,qr,bA];omega
   rw[hend] at hKB ⊢
   have hdo:iK f b=if B.term.kind=1 then dK f (nI f (gX f b) b) B.term.var else 0:=by unfold iK dK;rw[hbG]
   obtain ⟨Kz,hKz⟩:∃Kz,nI f (gX f b) (b:Int)=Kz:=⟨_,rfl⟩
   rw[hKz] at hKB hdo
   rw[hKz]
   refine y7<|ae<|ap U<|z6<|zd<|ae<|ao jg U Z6 U U<|aI Zd U<|aa U<|za (bh b jk Z0 U U U hBg)<|ao jj U Zm U U<|ao jh U Zz U U<|ay Y8 U<|ai U U<|z6<|zu U (fun ck=>?_) (fun ck=>?_)
   ·have ck:B.term.kind=1:=ck
    rw[if_pos ck] at hdo
    have hvk:aZ f B.term.var=true:=by
     have h1:=(hR.run.term _ (qu hBg))
     unfold bM at h1
     rw[if_neg (by omega),if_pos ck] at h1
     simp only[qz] at h1
     exact h1.1.1
    have hvr:0≤B.term.var∧B.term.var<f.vars.length:=by simpa [aZ] using hvk
    obtain ⟨v,hve⟩:=Int.eq_ofNat_of_zero_le hvr.1
    have hdc:=fun jd=>hdec iw jq jr Kz (D1 f L) hKB jd v (by omega)
    rw[←hve] at hdc
    simp only[List.cons_append,List.nil_append] at hdc
    refine zw (fun j=>false) (by kernel_rfl) U (zh (.rest _))<|ak 0 U (ef U)<|ak 1 U (bx jg U Z6 U U)<|ak 2 U (dx Zd U)<|ak 3 U (dq U)<|ak 4 U (bh b jk Z0 U U U hBg)<|ak 5 U (bx jj U Zm U U)<|ak 6 U (bx jh U j6 U U)<|ak 7 U (b7 j7 U)<|ak 8 U (bx jg U Y4 U U)<|ak 9 U (dx Yb U)<|ak 10 U (Gv.lenM Z7 U)<|ba 11 U<|az.makeI (m:=f.vars.length) wz X8 U U U U U (by simp) (by simp) (by show (8:Int)*_≤_;omega) (by omega)<|fun i85=>zf (zb (zc .t3))<|zf (zb (zc .t3))<|zf (zb (zc .t3))<|z6<|ba 12 U<|zr U (zh (.l (.l (.l (.l (.r (.r (.rest _)))))))) (hdc i85) ?_
    rintro r86 O86 ⟨_,⟨e,rfl,rfl⟩,rfl⟩
    refine z6<|ak 13 U (mA U)<|bY<|aO<|bz U<|aa U<|y4 (rows:=[[_]]) cC U U U U U<|yj (k:=1) wz X8 U U U U U (fun _=>.t4) (by rw[aQ,hdl];omega) (by decide) U (by show (_+_)*8≤_;simp<;>omega) (by simp<;>omega)<|fun i90=>za (gZ U)<|z6<|aO<|aC U U<|aa U<|z6 ?_
    exact ⟨(b+1,pw,i90),de,de,⟨_,(.drop (.drop (.drop (.drop (.refl _))))),by rw[hde,hdo,←lw];rfl⟩,hb2,by dsimp only;omega⟩
   ·have ck:¬B.term.kind=1:=ck
    rw[if_neg ck] at hdo
    refine zg<|aO<|bz U<|aa U<|y4 (rows:=[[_]]) cC U U U U U<|yj (k:=1) wz X8 U U U U U (fun _=>.t3) (by rw[aQ,hdl];omega) (by decide) U (by show (_+_)*8≤_;simp<;>omega) (by simp<;>omega)<|fun i90=>za (gZ U)<|z6<|aO<|aC U U<|aa U<|z6 ?_
    exact ⟨(b+1,pw,i90),de,de,⟨_,(.drop (.drop (.drop (.refl _)))),by rw[hde,hdo,←lw];rfl⟩,hb2,by dsimp only;omega⟩
 ·obtain rfl:b=f.blocks.length:=by omega
  have hdl:(xH f).length=f.blocks.length:=by unfold xH;rw[qr,bA]
  rw[List.take_of_length_le (by omega),pL]
  refine y3 (aX.knowB (t:=5) U .t1 U)<|y3 (aX.knowI (t:=6) U .head hdl)<|y7<|ae<|aT U<|aT U<|za (kO U)<|za (kO U)<|z6<|zi<|q7 (x:=.fro _ _) (y:=.fro _ _) U U ?_
  rfl
end Go.Proofs.YtdilpodccjlkgaaGreatDoor
namespace Go.Proofs.YtdilpodccjlkgaaGreatDoor
open Go.Proofs.Tryz
open Go.Proofs Go.Lib
theorem wE {f:ad} (h:b8 f) (h64:∀b∈f.blocks,∀x∈b.insts,cY x.num):Ga f:=by
 have h1:=h.1
 unfold nC at h1
 simp only[Bool.or_eq_false_iff,decide_eq_false_iff_not] at h1
 obtain ⟨_,_,_,_,_,h6⟩:=h
 exact ⟨by omega,fun b hb=>(h6 b hb).1,fun b hb x hx=>⟨gp ((h6 b hb).2.1 x hx),h64 b hb x hx⟩,fun b hb=>(h6 b hb).2.2⟩
end Go.Proofs.YtdilpodccjlkgaaGreatDoor
namespace Go.Proofs.YtdilpodccjlkgaaGreatDoor
open Go.Proofs.Tryz
open Go.Proofs Go.Lib Go.Shelf Go.RowKit
theorem GI:cX prog 61 #[(0,1),(1,1)] [.str ⟨#[]⟩,.int .i64 0]:=⟨_,_,Zi,X7,fun w=>by kernel_rfl,rfl⟩
theorem Fq:cU prog 22 61 2 2 [.str ⟨#[]⟩,.int .i64 0,.str ⟨#[]⟩,.int .i64 0]:=⟨_,Z7,Y1,X7,by decide,by decide,by kernel_rfl⟩
theorem Fr:cU prog 45 54 2 4 [.int .i64 0,.int .i64 0,.raw (.slice none 0 0),.int .i64 0,.int .i64 0,.int .i64 0,.raw (.slice none 0 0),.int .i64 0]:=⟨_,jz,jv,Z4,by decide,by decide,by kernel_rfl⟩
theorem Hf:cX prog 49 #[(0,1),(1,1),(2,2)] [.int .i64 0,.int .i64 0,.int .i64 0,.int .i64 0]:=⟨_,_,jh,zeroValue49,fun w=>by kernel_rfl,rfl⟩
theorem Hg:cX prog 51 #[(0,1),(1,1),(2,1),(3,4)] [.str ⟨#[]⟩,.raw (.slice none 0 0),.raw (.slice none 0 0),.int .i64 0,.int .i64 0,.int .i64 0,.int .i64 0]:=⟨_,_,jj,Zn,fun w=>by kernel_rfl,rfl⟩
theorem Fs:cU prog 24 51 1 7 [.str ⟨#[]⟩,.raw (.slice none 0 0),.raw (.slice none 0 0),.int .i64 0,.int .i64 0,.int .i64 0,.int .i64 0]:=⟨_,jk,Z0,Zn,by decide,by decide,by kernel_rfl⟩
theorem Hh:cX prog 26 #[(0,1),(1,1),(2,1)] [.raw (.slice none 0 0),.raw (.slice none 0 0),.raw (.slice none 0 0)]:=⟨_,_,jg,zeroValue26,fun w=>by kernel_rfl,rfl⟩
variable {E:World}
set_option maxRecDepth 20000
theorem D4 {f:ad} (hS:b8 f) {b:aY} (hb:b∈f.blocks) {x:aF} (hx:x∈b.insts):x.dst<f.vars.length:=by
 rcases (gp ((hS.2.2.2.2.2 b hb).2.1 x hx)).dst with ⟨h1,h2⟩|⟨h0,_,h3⟩
 ·omega
 ·exact (pk h3).1
theorem vd {f:ad} (ht:bj f=true) (hs:dv f=true) (h64:∀b∈f.blocks,∀x∈b.insts,cY x.num):bE f:=by
 have hS:=eW ht
 have hE:=dL ht
 have hSg:=(yV hE).1 hs
 refine ⟨fun b hb=>?_,hS,hE,hSg,Dv hSg.2.2.1 (fun b hb x hx=>D4 hS hb hx) fun b hb p hp=>?_,wE hS h64⟩
 ·unfold bj at ht
  exact List.all_eq_true.1 (Cf ht).2 b hb
 ·have:=pk ((hS.2.2.2.2.2 b hb).1 p hp).1
  exact ⟨this.2,this.1⟩
theorem s5 {f:ad} (h:fA f=true):small f∧bj f=true∧dv f=true∧Ci f=true:=by
 unfold fA at h
 simp only[qz] at h
 exact ⟨((kG f).1 h.1.1).small,h.1.2,h.2.1,by unfold Ci;rw[h.1.2,h.2.1,h.2.2];rfl⟩
def D5:ad:=⟨[⟨⟨#[120,115]⟩,2⟩,⟨⟨#[105]⟩,0⟩],[0,1],[⟨⟨#[97]⟩,[],[⟨18,-1,[0,1],0⟩,⟨18,-1,[0,1],0⟩],⟨2,1,0,0⟩⟩]⟩
theorem As:small D5:=by unfold small D5;simp[tT];decide
theorem rP:bj D5=true:=by decide +kernel
theorem ve:dv D5=true:=by decide +kernel
theorem Au:Ci D5=true:=by decide +kernel
theorem D6:Fb D5=[false,true]:=by decide +kernel
theorem s6 (hL:bB E):aK prog E 7 [] (.bool true):=by
 have hR:bE D5:=vd rP ve fun b hb x hx=>by
  have:b=⟨⟨#[97]⟩,[],[⟨18,-1,[0,1],0⟩,⟨18,-1,[0,1],0⟩],⟨2,1,0,0⟩⟩:=by simpa [D5] using hb
  subst this
  have:x=⟨18,-1,[0,1],0⟩:=by simpa using hx
  subst this
  unfold cY;decide
 have hP:=mw (E:=E) D5 ⟨As,hL,hR,rP,ve⟩ Au
 rw[D6] at hP
 refine zq func7 U (by decide) U<|ae<|ab U<|z6<|ae<|za (y5 (cps:=[(0,[_]),(1,[_])]) (rs:=[_,_]) GI U U U)<|za (y5 (cps:=[(0,[_])]) (rs:=[_,.int .i64 0]) GI U U U)<|y4 (rows:=[[_,_],[_,_]]) Fq U U U U U<|y4 (rows:=[[_],[_]]) sj U U U U U<|y4 (rows:=[[_],[_]]) sj U U U U U<|za (y5 (cps:=[(0,[_]),(1,[_]),(2,[_])]) (rs:=[_,_,_,.int .i64 0]) BO U U U)<|y4 (rows:=[[_],[_]]) sj U U U U U<|za (y5 (cps:=[(0,[_]),(1,[_]),(2,[_])]) (rs:=[_,_,_,.int .i64 0]) BO U U U)<|y4 (rows:=[[_,_,_,_],[_,_,_,_]]) Fr U U U U U<|za (y5 (cps:=[(0,[_]),(1,[_])]) (rs:=[_,_,.int .i64 0,.int .i64 0]) Hf U U U)<|za (y5 (cps:=[(0,[_]),(2,[_]),(3,[_,_,_,_])]) (rs:=[_,.raw (.slice none 0 0),_,_,_,_,_]) Hg U U U)<|zf (aX.slot (t:=14) U (Cs.agg (.cons (.refl _) (.cons (.nil 3) (.cons (.refl _) (.cons (.refl _) (.cons (.refl _) (.cons (.refl _) (.cons (.refl _) .nil)))))))))<|y4 (rows:=[[_,_,_,_,_,_,_]]) Fs U U U U U<|za (y5 (cps:=[(0,[_]),(1,[_]),(2,[_])]) (rs:=[_,_,_]) Hh U U U)<|y6 (cs:=[.raw (.slice none 0 0),.raw (.slice none 0 0),.raw (.slice none 0 0)]) zeroValue26 U U<|fun i1=>y1 jf U U U U U U .head U<|zf (yf (t:=1) U .head)<|z6<|ae<|ac ju jf U U<|ze (hP) U<|bR U<|za (yz (v:=.fro _ _) U U)<|bJ U U<|za (kO U)<|ap U<|z6<|ae<|aa U<|ai U U<|aj U<|z8 U U U<|aT U<|z8 U U U<|ar jx U ?_
 refine z8 U U U<|ai U U<|aq U U U<|aj U<|z8 U U U<|aT U<|z8 U U U<|za (bh 0 jx Zc U U U U)<|z8 U U U<|za (yn (c:=.bool _) Y7 U)<|z8 U U U<|aB U<|aq U U U<|aj U<|z8 U U U<|aT U<|z8 U U U<|za (bh 1 jx Zc U U U U)<|z8 U U U<|za (yn (c:=.bool _) Y7 U)<|aq U U U<|ab U<|z6<|zi<|zm (x:=.bool _) U ?_
 rfl
end Go.Proofs.YtdilpodccjlkgaaGreatDoor
