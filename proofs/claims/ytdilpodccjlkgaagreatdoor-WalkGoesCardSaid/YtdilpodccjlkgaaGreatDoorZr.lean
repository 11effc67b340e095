/- What is decided of a bool variable, step by step; what was decided already. Plain law. No conditions. -/
import Derived.Test.YtdilpodccjlkgaaGreatDoorZq
import Derived.Test.YtdilpodccjlkgaaGreatDoorZp
set_option linter.unusedVariables false
set_option linter.unusedSimpArgs false
set_option linter.unusedSectionVars false
namespace Go.Proofs.YtdilpodccjlkgaaGreatDoor
open Go.Proofs.Tryz
open Go.Proofs Go.Lib Go.Shelf Go.RowKit
theorem DI:dB prog 279 #[(0,1),(1,1)] [.int .i64 0,.bool false]:=⟨_,_,underlying279,zeroValue279,fun w=>by kernel_rfl,rfl⟩
variable {E:World}
set_option maxRecDepth 20000
def DJ (E:World) (f:ac) (iq bs:Nat) (n:Nat):Prop:=∀(q:kw) (es:List (gg × Int)) (jo:Nat) (c:Int) (is:Bool),bc f c=true→ro f c<n→iK f es q→fP es≤2*q.seen.length →
 aY prog E 185 [.po iq 0,.int .i64 c,.bool is] (tQ f iq bs jo es q) (fun y O=>∃g:Nat × List (gg × Int),y=.tup []∧O=tQ f iq bs g.1 g.2 (kx f n q c is)∧iK f g.2 (kx f n q c is)∧fP g.2+2*q.seen.length≤fP es+2*(kx f n q c is).seen.length+1)
set_option maxHeartbeats 16000000 in
theorem DK (f:ac) (hR:b5 f) (hv:f.vars.length≤1000) (iq bs n:Nat) (ih:DJ E f iq bs n):DJ E f iq bs (n+1):=by
 intro q es jo c is hc hrk hA hcn
 have hval:=hA.val (c,is)
 have hlen:=hA.len
 have hol:=hA.out
 have hnn:=tN es hA.pos
 obtain ⟨es1,hes1⟩:∃es1,bU es (c,is) ((bf es (c,is)).getD 0+1)=es1:=⟨_,rfl⟩
 have hg1:(bf es1 (c,is)).getD 0=(bf es (c,is)).getD 0+1:=by rw[←hes1,nA,if_pos rfl];rfl
 have hold:=fun h=>hA.old (k:=(c,is)) h
 have hnew:=fun h=>hA.new (k:=(c,is)) h hc
 rw[hes1] at hold hnew
 refine qa (γ:=Nat × List (gg × Int)) (x:=fun _=>.tup []) (M:=fun g=>tQ f iq bs g.1 g.2 (kx f (n+1) q c is)) (p:=fun g=>iK f g.2 (kx f (n+1) q c is)∧fP g.2+2*q.seen.length≤fP es+2*(kx f (n+1) q c is).seen.length+1) ?_
 have tell:=fun es (k:gg) a b m=>xP (E:=E) f iq bs jo es ⟨q.seen++[k],q.out⟩ a b m (by show q.out.length≤_;omega)
 have ih:=fun q es jo c is h1 h2 h3 h4=>ih q es jo c is h1 h2 h3 h4
 unfold tQ at tell ih ⊢
 unfold kx
 refine zp func185 Z (by decide) Z ?_
 rcases hm:dx f c with _|x
 ·refine zd<|ye (γ:=Nat) [0,1,2] (fun g=>[(6,.po g 0),(7,.bool false)]) (fun g=>[(iq,.cells 256 (DH f bs jo q.out.length)),(g,.cells 54 [.int .i64 0,.int .i64 0,.raw (.slice none 0 0),.int .i64 0]),(0,lQ tP bs es),(jo,.grow 3 183 (q.out.map iL).flatten)]) (fun g=>True) ?_ (fun _ _ h=>h) ?_
  ·refine zr (fun j=>Nat.beq j 14) (by kernel_rfl) Z (zj (.r (.rest _)))<|ad 0 Z (cJ Z)<|ad 1 Z (zw Z)<|ad 2 Z (zf Yb Z jj (by decide) Z Z)<|ad 3 Z (Gv.loadAC (l:=[_,_,_]) jv jj Z ⟨_,.head⟩ Z Z)<|ad 4 Z (cJ Z)<|ad 5 Z (zw Z)<|ad 6 Z (zf Yb Z Yu (by decide) Z Z)<|ad 7 Z (zo (c:=.fro _ _) Xe Z ⟨_,.head⟩ Z)<|ad 8 Z (cD Z)<|yr (i:=9) (j:=13) Z Z (by kernel_rfl) ?_ ?_
   ·refine zh (vR hc hm) Z<|z6<|ad 10 Z (ke Z)<|ad 11 Z (q9 (v:=.agg _) Z Z)<|yp (i:=12) Z (by kernel_rfl) (by kernel_rfl) (by kernel_rfl) (by kernel_rfl) (jJ Z Z)<|aQ 13 Z<|y7 (cs:=[.int .i64 0,.int .i64 0,.raw (.slice none 0 0),.int .i64 0]) Zh Z Z<|fun i6=>z6<|yf<|yh (i:=14) Z (by kernel_rfl) (by kernel_rfl)<|y1 jy Z Z Z Z Z Z .t1 Z<|z6<|yh (i:=15) Z (by kernel_rfl) (by kernel_rfl)<|ab Z<|z6<|ym (by kernel_rfl) ?_
    exact ⟨i6,(by repeat (first|with_reducible exact y5 _ _|refine yn rfl ?_)),eo,aH,trivial⟩
   ·refine y7 (cs:=[.int .i64 0,.int .i64 0,.raw (.slice none 0 0),.int .i64 0]) Zh Z Z<|fun i6=>z6<|aQ 9 Z<|zh (vR hc hm) Z<|z6<|ad 10 Z (ke Z)<|ad 11 Z (q9 (v:=.agg _) Z Z)<|yp (i:=12) Z (by kernel_rfl) (by kernel_rfl) (by kernel_rfl) (by kernel_rfl) (jJ Z Z)<|yf<|yh (i:=14) Z (by kernel_rfl) (by kernel_rfl)<|y1 jy Z Z Z Z Z Z .t1 Z<|z6<|yh (i:=15) Z (by kernel_rfl) (by kernel_rfl)<|ab Z<|z6<|ym (by kernel_rfl) ?_
    exact ⟨i6,(by repeat (first|with_reducible exact y5 _ _|refine yn rfl ?_)),eo,aH,trivial⟩
  ·rintro i6 _
   refine zd<|zd<|ye (γ:=Unit) [0,1,2,6,7] (fun u=>[]) (fun u=>[(iq,.cells 256 (DH f bs jo q.out.length)),(i6,.cells 54 [.int .i64 0,.int .i64 0,.raw (.slice none 0 0),.int .i64 0]),(0,lQ tP bs es1),(jo,.grow 3 183 (q.out.map iL).flatten)]) (fun u=>True) ?_ (fun _ _ h=>h) ?_
   ·refine zr (fun j=>false) (by kernel_rfl) Z (zj (.r (.rest _)))<|ad 0 Z (cJ Z)<|ad 1 Z (zw Z)<|ad 2 Z (zf Yb Z sizeOf254 (by decide) Z Z)<|ad 3 Z (zo (c:=dy _) isAgg254 Z ⟨_,.head⟩ Z)<|ad 4 Z (cD Z)<|ad 5 Z (m5 Z)<|ad 6 Z (y3 (cps:=[(0,[_]),(1,[_])]) (rs:=[_,_]) DI Z Z Z)<|yr (i:=7) (j:=9) Z Z (by kernel_rfl) ?_ ?_
    ·refine za (Gv.lookup1ST (k:=(c,is)) jZ Yr Zv Z Z ⟨_,.t1⟩)<|z6<|ad 8 Z (wG Z Z)<|aQ 9 Z<|az.mapEntryS (k:=(c,is)) jZ Yr Zv Z Z (fun _=>.t1)<|fun s30=>z6<|ad 10 Z (iN Z Z)<|aQ 11 Z<|az.entryStoreS Z Z Z .t1<|z6<|bI ?_
     exact ⟨(),(by repeat (first|with_reducible exact y5 _ _|refine yn rfl ?_)),trivial,⟨_,(.refl _),by rw[lC,hes1];rfl⟩,trivial⟩
    ·refine az.mapEntryS (k:=(c,is)) jZ Yr Zv Z Z (fun _=>.t1)<|fun s30=>z6<|ad 10 Z (iN Z Z)<|aQ 7 Z<|za (Gv.lookup1SE (k:=(c,is)) jZ Yr Zv Z Z ⟨_,.t1⟩)<|z6<|ad 8 Z (wG Z Z)<|aQ 11 Z<|az.entryStoreS Z Z Z .t1<|z6<|bI ?_
     exact ⟨(),(by repeat (first|with_reducible exact y5 _ _|refine yn rfl ?_)),trivial,⟨_,(.refl _),by rw[lC,hes1];rfl⟩,trivial⟩
   ·rintro u _
    refine ai<|aj Z<|aC Z<|aj Z<|z7 Z Z Z<|z7 Z Z Z<|z7 Z Z Z<|z7 Z Z Z<|z7 Z Z Z<|z7 Z Z Z<|z7 Z Z Z<|z7 Z Z Z<|z7 Z Z Z<|aw Z Z Z<|z6 ?_
    rcases hk:q.seen.contains (c,is) with _|_
    ·rw[if_neg (show ¬(false=true) by decide)]
     refine yt Z Z<|zg<|yl ?_
     exact ⟨(jo,es1),rfl,⟨_,.keep (.drop (.refl _)),rfl⟩,(hnew hk).1,by have:=(hnew hk).2;simp;omega⟩
    ·rw[if_pos (show true=true from rfl)]
     refine yt Z Z<|zg<|yl ?_
     exact ⟨(jo,es1),rfl,⟨_,.keep (.drop (.refl _)),rfl⟩,(hold hk).1,by have:=(hold hk).2;dsimp only;omega⟩
 ·obtain ⟨hF,_,_⟩:=hR.madeF hm
  have a0:∀{k:Int},x.op=k→0<([0,1,2,2,2,2,2,2,2,2,1,2,1,2,3,1,0,1,2,1,1,2,2,2,1,2,2][k.toNat]?).getD 0→(bc f (bj x)=true∧ro f (bj x)<n)∧0<x.args.length:=fun e h=>by
   have hl:0<x.args.length:=by rw[hF.cnt e];exact h
   have:=hR.rk0 hm hl
   exact ⟨⟨qW (hF.a0 hl),by omega⟩,hl⟩
  have a1:∀{k:Int},x.op=k→1<([0,1,2,2,2,2,2,2,2,2,1,2,1,2,3,1,0,1,2,1,1,2,2,2,1,2,2][k.toNat]?).getD 0→(bc f (b7 x)=true∧ro f (b7 x)<n)∧1<x.args.length:=fun e h=>by
   have hl:1<x.args.length:=by rw[hF.cnt e];exact h
   have:=hR.rk1 hm hl
   exact ⟨⟨qW (hF.a1 hl),by omega⟩,hl⟩
  refine zd<|ye (γ:=Nat) [0,1,2] (fun g=>[(6,.po g 0),(7,.bool true)]) (fun g=>[(iq,.cells 256 (DH f bs jo q.out.length)),(g,.cells 54 (bH x)),(0,lQ tP bs es),(jo,.grow 3 183 (q.out.map iL).flatten)]) (fun g=>True) ?_ (fun _ _ h=>h) ?_
  ·refine zr (fun j=>Nat.beq j 14) (by kernel_rfl) Z (zj (.r (.rest _)))<|ad 0 Z (cJ Z)<|ad 1 Z (zw Z)<|ad 2 Z (zf Yb Z jj (by decide) Z Z)<|ad 3 Z (Gv.loadAC (l:=[_,_,_]) jv jj Z ⟨_,.head⟩ Z Z)<|ad 4 Z (cJ Z)<|ad 5 Z (zw Z)<|ad 6 Z (zf Yb Z Yu (by decide) Z Z)<|ad 7 Z (zo (c:=.fro _ _) Xe Z ⟨_,.head⟩ Z)<|ad 8 Z (cD Z)<|yr (i:=9) (j:=13) Z Z (by kernel_rfl) ?_ ?_
   ·refine zh (vS hc hm) Z<|z6<|ad 10 Z (ke Z)<|ad 11 Z (q9 (v:=.agg _) Z Z)<|yp (i:=12) Z (by kernel_rfl) (by kernel_rfl) (by kernel_rfl) (by kernel_rfl) (jJ Z Z)<|aQ 13 Z<|y7 (cs:=[.int .i64 0,.int .i64 0,.raw (.slice none 0 0),.int .i64 0]) Zh Z Z<|fun i6=>z6<|yf<|yh (i:=14) Z (by kernel_rfl) (by kernel_rfl)<|y1 jy Z Z Z Z Z Z .t1 Z<|z6<|yh (i:=15) Z (by kernel_rfl) (by kernel_rfl)<|ab Z<|z6<|ym (by kernel_rfl) ?_
    exact ⟨i6,(by repeat (first|with_reducible exact y5 _ _|refine yn rfl ?_)),eo,aH,trivial⟩
   ·refine y7 (cs:=[.int .i64 0,.int .i64 0,.raw (.slice none 0 0),.int .i64 0]) Zh Z Z<|fun i6=>z6<|aQ 9 Z<|zh (vS hc hm) Z<|z6<|ad 10 Z (ke Z)<|ad 11 Z (q9 (v:=.agg _) Z Z)<|yp (i:=12) Z (by kernel_rfl) (by kernel_rfl) (by kernel_rfl) (by kernel_rfl) (jJ Z Z)<|yf<|yh (i:=14) Z (by kernel_rfl) (by kernel_rfl)<|y1 jy Z Z Z Z Z Z .t1 Z<|z6<|yh (i:=15) Z (by kernel_rfl) (by kernel_rfl)<|ab Z<|z6<|ym (by kernel_rfl) ?_
    exact ⟨i6,(by repeat (first|with_reducible exact y5 _ _|refine yn rfl ?_)),eo,aH,trivial⟩
  ·rintro i6 _
   refine zd<|zd<|ye (γ:=Unit) [0,1,2,6,7] (fun u=>[]) (fun u=>[(iq,.cells 256 (DH f bs jo q.out.length)),(i6,.cells 54 (bH x)),(0,lQ tP bs es1),(jo,.grow 3 183 (q.out.map iL).flatten)]) (fun u=>True) ?_ (fun _ _ h=>h) ?_
   ·refine zr (fun j=>false) (by kernel_rfl) Z (zj (.r (.rest _)))<|ad 0 Z (cJ Z)<|ad 1 Z (zw Z)<|ad 2 Z (zf Yb Z sizeOf254 (by decide) Z Z)<|ad 3 Z (zo (c:=dy _) isAgg254 Z ⟨_,.head⟩ Z)<|ad 4 Z (cD Z)<|ad 5 Z (m5 Z)<|ad 6 Z (y3 (cps:=[(0,[_]),(1,[_])]) (rs:=[_,_]) DI Z Z Z)<|yr (i:=7) (j:=9) Z Z (by kernel_rfl) ?_ ?_
    ·refine za (Gv.lookup1ST (k:=(c,is)) jZ Yr Zv Z Z ⟨_,.t1⟩)<|z6<|ad 8 Z (wG Z Z)<|aQ 9 Z<|az.mapEntryS (k:=(c,is)) jZ Yr Zv Z Z (fun _=>.t1)<|fun s30=>z6<|ad 10 Z (iN Z Z)<|aQ 11 Z<|az.entryStoreS Z Z Z .t1<|z6<|bI ?_
     exact ⟨(),(by repeat (first|with_reducible exact y5 _ _|refine yn rfl ?_)),trivial,⟨_,(.refl _),by rw[lC,hes1];rfl⟩,trivial⟩
    ·refine az.mapEntryS (k:=(c,is)) jZ Yr Zv Z Z (fun _=>.t1)<|fun s30=>z6<|ad 10 Z (iN Z Z)<|aQ 7 Z<|za (Gv.lookup1SE (k:=(c,is)) jZ Yr Zv Z Z ⟨_,.t1⟩)<|z6<|ad 8 Z (wG Z Z)<|aQ 11 Z<|az.entryStoreS Z Z Z .t1<|z6<|bI ?_
     exact ⟨(),(by repeat (first|with_reducible exact y5 _ _|refine yn rfl ?_)),trivial,⟨_,(.refl _),by rw[lC,hes1];rfl⟩,trivial⟩
   ·rintro u _
    refine zz (yd (t:=6) Z .t1)<|ai<|aj Z<|aC Z<|aj Z<|z8 Z Z Z<|aJ Z<|z8 Z Z Z<|ap Z<|z8 Z Z Z<|za (zf Yb Z sizeOf254 (by decide) Z Z)<|z8 Z Z Z<|za (zo (c:=dy _) isAgg254 Z ⟨_,.head⟩ Z)<|z8 Z Z Z<|aa Z<|z8 Z Z Z<|aj Z<|z8 Z Z Z<|za (y3 (cps:=[(0,[_]),(1,[_])]) (rs:=[_,_]) DI Z Z Z)<|z8 Z Z Z<|za (Gv.lookup1ST (k:=(c,is)) jZ Yr Zv Z Z ⟨_,.t1⟩)<|z8 Z Z Z<|aZ Z Z<|ax Z Z Z<|z6<|zy Z (fun c44=>?_) (fun c44=>?_)
    ·have hk:q.seen.contains (c,is)=true:=hval.2.2.2 (by have:=wd c44;rw[hg1] at this;omega)
     rw[if_pos hk]
     refine zg<|yl ?_
     exact ⟨(jo,es1),rfl,⟨_,.refl _,rfl⟩,(hold hk).1,by have:=(hold hk).2;dsimp only;omega⟩
    ·have hk:q.seen.contains (c,is)=false:=by
      cases e:q.seen.contains (c,is) with
      |false=>rfl
      |true=>
       have h1:=hval.2.2.1 e
       have:=we c44
       rw[hg1] at this;omega
     rw[if_neg (show ¬q.seen.contains (c,is)=true by rw[hk];decide)]
     obtain ⟨hA1,hc1⟩:=hnew hk
     have hl1:(q.seen++[(c,is)]).length=q.seen.length+1:=by simp
     dsimp only
     have two:∀a b m,iK f es1 (fa ⟨q.seen++[(c,is)],q.out⟩ a b m)∧fP es1+2*q.seen.length≤fP es+2*(fa ⟨q.seen++[(c,is)],q.out⟩ a b m).seen.length+1:=fun a b m=>by
      have h:=hA1.tell hol a b m
      exact ⟨h.1,by rw[h.2,hc1,hl1];omega⟩
     have one:iK f es1 ⟨q.seen++[(c,is)],q.out⟩∧fP es1+2*q.seen.length≤fP es+2*(kw.mk (q.seen++[(c,is)]) q.out).seen.length+1:=⟨hA1,by dsimp only;rw[hc1,hl1];omega⟩
     refine zi<|zm<|ai<|au j5 Z Z2 Z Z<|aA Z4 Z<|ak Z Z<|ab Z<|z6<|zt Z (fun c10=>?_) (fun c10=>?_)
     ·have c10:x.op=10:=c10
      obtain ⟨⟨h1,h2⟩,h3⟩:=a0 c10 (by decide)
      rw[if_pos c10]
      refine aW<|aJ Z<|au j5 Z j7 Z Z<|aI jf Z<|za (bv 0 wy wz Z Z Z (cU h3))<|aA j6 Z<|aj Z<|aC Z<|zu Z (zj (.l (.l (.l (.rest _))))) (ih ⟨q.seen++[(c,is)],q.out⟩ es1 jo (bj x) (!is) h1 h2 hA1 (by dsimp only;rw[hc1,hl1];omega)) ?_
      rintro r56 O56 ⟨⟨j1,e1⟩,rfl,rfl,hB1,hB2⟩
      refine z6<|yl ?_
      exact ⟨(j1,e1),rfl,⟨_,.refl _,rfl⟩,hB1,by dsimp only at hB2 ⊢;rw[hc1,hl1] at hB2;omega⟩
     ·rw[if_neg (show ¬x.op=10 from c10)]
      refine ai<|au j5 Z Z2 Z Z<|aA Z4 Z<|ak Z Z<|ab Z<|z6<|zt Z (fun c1=>?_) (fun c1=>?_)
      ·have c1:x.op=1:=c1
       obtain ⟨⟨h1,h2⟩,h3⟩:=a0 c1 (by decide)
       rw[if_pos c1]
       refine aW<|aJ Z<|au j5 Z j7 Z Z<|aI jf Z<|za (bv 0 wy wz Z Z Z (cU h3))<|aA j6 Z<|aj Z<|zu Z (zj (.l (.l (.l (.rest _))))) (ih ⟨q.seen++[(c,is)],q.out⟩ es1 jo (bj x) is h1 h2 hA1 (by dsimp only;rw[hc1,hl1];omega)) ?_
       rintro r67 O67 ⟨⟨j1,e1⟩,rfl,rfl,hB1,hB2⟩
       refine z6<|yl ?_
       exact ⟨(j1,e1),rfl,⟨_,.refl _,rfl⟩,hB1,by dsimp only at hB2 ⊢;rw[hc1,hl1] at hB2;omega⟩
      ·rw[if_neg (show ¬x.op=1 from c1)]
       refine ai<|au j5 Z Z2 Z Z<|aA Z4 Z<|ak Z Z<|aj Z<|zq (s:=72) Z (fun s11=>?_) (fun s11=>?_)
       ·have c11:x.op=11:=wd s11
        obtain ⟨⟨h1,h2⟩,h3⟩:=a0 c11 (by decide)
        obtain ⟨⟨g1,g2⟩,g3⟩:=a1 c11 (by decide)
        rw[if_pos c11]
        refine z8 Z Z s11<|aj Z<|aw Z s11 Z<|ab Z<|z6<|zy Z (fun ci=>?_) (fun ci=>?_)
        ·have ci:is=true:=ci
         rw[if_pos ci]
         refine ai<|aJ Z<|au j5 Z j7 Z Z<|aI jf Z<|za (bv 0 wy wz Z Z Z (cU h3))<|aA j6 Z<|zu Z (zj (.l (.l (.l (.rest _))))) (ih ⟨q.seen++[(c,is)],q.out⟩ es1 jo (bj x) true h1 h2 hA1 (by dsimp only;rw[hc1,hl1];omega)) ?_
         rintro r80 O80 ⟨⟨j1,e1⟩,rfl,rfl,hB1,hB2⟩
         refine z6 ?_
         dsimp only at hB2
         rw[hc1,hl1] at hB2
         refine aW<|aJ Z<|au j5 Z j7 Z Z<|aI jf Z<|za (bv 1 wy wz Z Z Z (du g3))<|aA j6 Z<|zu Z (zj (.l (.l (.l (.rest _))))) (ih _ e1 j1 (b7 x) true g1 g2 hB1 (by omega)) ?_
         rintro r86 O86 ⟨⟨j2,e2⟩,rfl,rfl,hD1,hD2⟩
         refine z6<|yl ?_
         exact ⟨(j2,e2),rfl,⟨_,.refl _,rfl⟩,hD1,by dsimp only at hD2 ⊢;omega⟩
        ·rw[if_neg (show ¬is=true by rw[show is=false from ci];decide)]
         refine ai<|au j5 Z Z2 Z Z<|aA Z4 Z<|ak Z Z<|aj Z<|zq (s:=91) Z (fun d8=>?_) (fun d8=>?_)
         ·exfalso;rw[c11] at d8;exact absurd d8 (by decide)
         ·refine z7 Z Z d8<|ax Z d8 Z<|ab Z<|z6<|yg Z Z<|ai<|au j5 Z Z2 Z Z<|aA Z4 Z<|ak Z Z<|ab Z<|z6<|yg Z (w9 (by rw[c11];decide))<|ai<|au j5 Z Z2 Z Z<|aA Z4 Z<|ak Z Z<|aj Z<|zq (s:=122) Z (fun d9=>?_) (fun d9=>?_)
          ·exfalso;rw[c11] at d9;exact absurd d9 (by decide)
          ·refine z7 Z Z d9<|ax Z d9 Z<|ab Z<|z6<|yg Z Z<|ai<|au j5 Z Z2 Z Z<|aA Z4 Z<|ak Z Z<|ab Z<|z6<|yg Z (w9 (by rw[c11];decide))<|ai<|au j5 Z Z2 Z Z<|aA Z4 Z<|ak Z Z<|aj Z<|zq (s:=153) Z (fun d7=>?_) (fun d7=>?_)
           ·exfalso;rw[c11] at d7;exact absurd d7 (by decide)
           ·refine z7 Z Z d7<|ax Z d7 Z<|ab Z<|z6<|yg Z Z<|zi<|yl ?_
            exact ⟨(jo,es1),rfl,⟨_,.refl _,rfl⟩,one⟩
       ·have c11:¬x.op=11:=we s11
        rw[if_neg c11]
        refine z7 Z Z s11<|ax Z s11 Z<|ab Z<|z6<|yg Z Z<|ai<|au j5 Z Z2 Z Z<|aA Z4 Z<|ak Z Z<|aj Z<|zq (s:=91) Z (fun s8=>?_) (fun s8=>?_)
        ·have c8:x.op=8:=wd s8
         obtain ⟨_,h3⟩:=a0 c8 (by decide)
         obtain ⟨_,g3⟩:=a1 c8 (by decide)
         rw[if_pos c8]
         refine z8 Z Z s8<|aj Z<|aw Z s8 Z<|ab Z<|z6<|zy Z (fun ci=>?_) (fun ci=>?_)
         ·rw[if_pos (show is=true from ci)]
          refine zr (fun j=>false) (by kernel_rfl) Z (zj (.rest _))<|ad 0 Z (cJ Z)<|ad 1 Z (bK j5 Z j7 Z Z)<|ad 2 Z (e9 jf Z)<|ad 3 Z (bv 0 wy wz Z Z Z (cU h3))<|ad 4 Z (cQ j6 Z)<|ad 5 Z (bK j5 Z j7 Z Z)<|ad 6 Z (e9 jf Z)<|ad 7 Z (bv 1 wy wz Z Z Z (du g3))<|ad 8 Z (cQ j6 Z)<|aQ 9 Z<|zu Z (zj (.l (.l (.l (.rest _))))) (tell es1 (c,is) (bj x) (b7 x) 0) ?_
          rintro r103 O103 ⟨j1,rfl,rfl,_⟩
          refine z6<|bI<|yl ?_
          exact ⟨(j1,es1),rfl,⟨_,.refl _,rfl⟩,two _ _ _⟩
         ·rw[if_neg (show ¬is=true by rw[show is=false from ci];decide)]
          refine ai<|au j5 Z Z2 Z Z<|aA Z4 Z<|ak Z Z<|ab Z<|z6<|yt Z (w8 c8)<|zr (fun j=>false) (by kernel_rfl) Z (zj (.rest _))<|ad 0 Z (cJ Z)<|ad 1 Z (bK j5 Z j7 Z Z)<|ad 2 Z (e9 jf Z)<|ad 3 Z (bv 1 wy wz Z Z Z (du g3))<|ad 4 Z (cQ j6 Z)<|ad 5 Z (bK j5 Z j7 Z Z)<|ad 6 Z (e9 jf Z)<|ad 7 Z (bv 0 wy wz Z Z Z (cU h3))<|ad 8 Z (cQ j6 Z)<|aQ 9 Z<|zu Z (zj (.l (.l (.l (.rest _))))) (tell es1 (c,is) (b7 x) (bj x) 1) ?_
          rintro r117 O117 ⟨j1,rfl,rfl,_⟩
          refine z6<|bI<|yl ?_
          exact ⟨(j1,es1),rfl,⟨_,.refl _,rfl⟩,two _ _ _⟩
        ·have c8:¬x.op=8:=we s8
         rw[if_neg c8]
         refine z7 Z Z s8<|ax Z s8 Z<|ab Z<|z6<|yg Z Z<|ai<|au j5 Z Z2 Z Z<|aA Z4 Z<|ak Z Z<|ab Z<|z6<|yg Z (w9 c8)<|ai<|au j5 Z Z2 Z Z<|aA Z4 Z<|ak Z Z<|aj Z<|zq (s:=122) Z (fun s9=>?_) (fun s9=>?_)
         ·have c9:x.op=9:=wd s9
          obtain ⟨_,h3⟩:=a0 c9 (by decide)
          obtain ⟨_,g3⟩:=a1 c9 (by decide)
          rw[if_pos c9]
          refine z8 Z Z s9<|aj Z<|aw Z s9 Z<|ab Z<|z6<|zy Z (fun ci=>?_) (fun ci=>?_)
          ·rw[if_pos (show is=true from ci)]
           refine zr (fun j=>false) (by kernel_rfl) Z (zj (.rest _))<|ad 0 Z (cJ Z)<|ad 1 Z (bK j5 Z j7 Z Z)<|ad 2 Z (e9 jf Z)<|ad 3 Z (bv 0 wy wz Z Z Z (cU h3))<|ad 4 Z (cQ j6 Z)<|ad 5 Z (bK j5 Z j7 Z Z)<|ad 6 Z (e9 jf Z)<|ad 7 Z (bv 1 wy wz Z Z Z (du g3))<|ad 8 Z (cQ j6 Z)<|aQ 9 Z<|zu Z (zj (.l (.l (.l (.rest _))))) (tell es1 (c,is) (bj x) (b7 x) 1) ?_
           rintro r134 O134 ⟨j1,rfl,rfl,_⟩
           refine z6<|bI<|yl ?_
           exact ⟨(j1,es1),rfl,⟨_,.refl _,rfl⟩,two _ _ _⟩
          ·rw[if_neg (show ¬is=true by rw[show is=false from ci];decide)]
           refine ai<|au j5 Z Z2 Z Z<|aA Z4 Z<|ak Z Z<|ab Z<|z6<|yt Z (w8 c9)<|zr (fun j=>false) (by kernel_rfl) Z (zj (.rest _))<|ad 0 Z (cJ Z)<|ad 1 Z (bK j5 Z j7 Z Z)<|ad 2 Z (e9 jf Z)<|ad 3 Z (bv 1 wy wz Z Z Z (du g3))<|ad 4 Z (cQ j6 Z)<|ad 5 Z (bK j5 Z j7 Z Z)<|ad 6 Z (e9 jf Z)<|ad 7 Z (bv 0 wy wz Z Z Z (cU h3))<|ad 8 Z (cQ j6 Z)<|aQ 9 Z<|zu Z (zj (.l (.l (.l (.rest _))))) (tell es1 (c,is) (b7 x) (bj x) 0) ?_
           rintro r148 O148 ⟨j1,rfl,rfl,_⟩
           refine z6<|bI<|yl ?_
           exact ⟨(j1,es1),rfl,⟨_,.refl _,rfl⟩,two _ _ _⟩
         ·have c9:¬x.op=9:=we s9
          rw[if_neg c9]
          refine z7 Z Z s9<|ax Z s9 Z<|ab Z<|z6<|yg Z Z<|ai<|au j5 Z Z2 Z Z<|aA Z4 Z<|ak Z Z<|ab Z<|z6<|yg Z (w9 c9)<|ai<|au j5 Z Z2 Z Z<|aA Z4 Z<|ak Z Z<|aj Z<|zq (s:=153) Z (fun s7=>?_) (fun s7=>?_)
          ·have c7:x.op=7:=wd s7
           obtain ⟨_,h3⟩:=a0 c7 (by decide)
           obtain ⟨_,g3⟩:=a1 c7 (by decide)
           rw[if_pos c7]
           refine z8 Z Z s7<|aj Z<|aw Z s7 Z<|ab Z<|z6<|zy Z (fun ci=>?_) (fun ci=>?_)
           ·rw[if_pos (show is=true from ci)]
            refine zr (fun j=>false) (by kernel_rfl) Z (zj (.rest _))<|ad 0 Z (cJ Z)<|ad 1 Z (bK j5 Z j7 Z Z)<|ad 2 Z (e9 jf Z)<|ad 3 Z (bv 0 wy wz Z Z Z (cU h3))<|ad 4 Z (cQ j6 Z)<|ad 5 Z (bK j5 Z j7 Z Z)<|ad 6 Z (e9 jf Z)<|ad 7 Z (bv 1 wy wz Z Z Z (du g3))<|ad 8 Z (cQ j6 Z)<|aQ 9 Z<|zu Z (zj (.l (.l (.l (.rest _))))) (tell es1 (c,is) (bj x) (b7 x) 2) ?_
            rintro r165 O165 ⟨j1,rfl,rfl,_⟩
            refine z6<|bI<|yl ?_
            exact ⟨(j1,es1),rfl,⟨_,.refl _,rfl⟩,two _ _ _⟩
           ·rw[if_neg (show ¬is=true by rw[show is=false from ci];decide)]
            refine zi<|yl ?_
            exact ⟨(jo,es1),rfl,⟨_,.refl _,rfl⟩,one⟩
          ·have c7:¬x.op=7:=we s7
           rw[if_neg c7]
           refine z7 Z Z s7<|ax Z s7 Z<|ab Z<|z6<|yg Z Z<|zi<|yl ?_
           exact ⟨(jo,es1),rfl,⟨_,.refl _,rfl⟩,one⟩
theorem Ac (f:ac) (hR:b5 f) (hv:f.vars.length≤1000) (iq bs:Nat):∀n,DJ E f iq bs n
 |0=>fun _ _ _ _ _ _ h=>by omega
 |n+1=>DK f hR hv iq bs n (Ac f hR hv iq bs n)
end Go.Proofs.YtdilpodccjlkgaaGreatDoor
namespace Go.Proofs.YtdilpodccjlkgaaGreatDoor
open Go.Proofs.Tryz
open Go.Proofs Go.Lib Go.Shelf Go.RowKit
theorem HZ:dB prog 256 #[(0,3),(3,1),(4,1),(5,1)] [.raw (.slice none 0 0),.raw (.slice none 0 0),.raw (.slice none 0 0),.raw (.slice none 0 0),.raw (.map none),.raw (.slice none 0 0)]:=⟨_,_,Yb,zeroValue256,fun w=>by kernel_rfl,rfl⟩
variable {E:World}
set_option maxRecDepth 20000
theorem xQ (l:List ww):∀x∈l.map iL,x.length=3:=fun x hx=>by obtain ⟨o,_,rfl⟩:=List.mem_map.1 hx;rfl
theorem vT (f:ac) (hR:b5 f) (hv:f.vars.length≤1000) (c:Int) (is:Bool) (hc:bc f c=true) :
  aM prog E 151 [.agg (bE f),.fro 2 ((cf f).map eP.row),.int .i64 c,.bool is] (.fro 3 ((jX f c is).map iL)):=by
 have hA:=fun iq bs jo=>Ac (E:=E) f hR hv iq bs 100000 ⟨[],[]⟩ [] jo c is hc (hR.rk_low c) (iK.emp f) (by decide)
 unfold tQ at hA
 refine zp func151 Z (by decide) Z<|ai<|ya (cs:=_) Z Z Z<|za (jI Z)<|z6<|ai<|ae jv jj Z Z<|be Z<|az.makeMapT (c:=tP)<|fun b12=>za (y3 (cps:=[(0,[_,_,_]),(1,[_]),(2,[_])]) (rs:=[_,_,_,_,_,.raw (.slice none 0 0)]) HZ Z Z Z)<|yo (cs:=_) Z Z Z Z<|fun i14=>za (fU Z)<|z6<|gP (off:=5) (k:=3) (T:=183) (fun _=>.head) Z<|fun jo=>zz (zb (zc .t2))<|zz (zb (zc .t2))<|ai<|aJ Z<|aa Z<|aj Z<|zu Z (zj (.l (.l (.l (.rest _))))) (hA i14 b12 jo) ?_
 rintro r18 O18 ⟨⟨j1,e1⟩,rfl,rfl,hB1,hB2⟩
 refine z6<|zz (aS.knowC (off:=5) (rows:=(jX f c is).map iL) .t2 .head Z (by exact xQ _) (by decide) (by rw[w1];rfl))<|ai<|aJ Z<|ap Z<|za (zf Yb Z sizeOf181 (by decide) Z Z)<|za (zo (c:=.fro _ _) isAgg181 Z ⟨_,.head⟩ Z)<|za (nI Z)<|z6<|zg<|zn (x:=.fro _ _) Z ?_
 rfl
theorem vU (f:ac) (hf:small f) (hL:bz E) (hR:b5 f) (ht:bi f=true) (hs:dD f=true) (c:Int) (is:Bool) (hc:bc f c=true) (hk:bg f c=1) :
  aM prog E 109 [.agg (bE f),.int .i64 c,.bool is] (.fro 3 ((jX f c is).map iL)):=by
 have h1:=kT (E:=E) f hf hL
 rw[if_pos (by rw[ht,hs];rfl)] at h1
 have h2:=kS (E:=E) f hf hL ht
 have h3:=vT (E:=E) f hR hf.1 c is hc
 obtain ⟨vr,hx,hv2,hkt⟩:=kL hc
 have hc2:0≤c∧c<f.vars.length:=by simpa [bc] using hc
 rw[hk] at hkt
 unfold bE at *
 refine zp func109 Z (by decide) Z<|ai<|ya (cs:=_) Z Z Z<|za (jI Z)<|z6<|zd<|zd<|ye (γ:=Bool) [1,2,3] (fun u=>[(29,.bool u)]) (fun u=>[]) (fun u=>u=false) ?_ (fun _ _ h=>h) ?_
 ·refine aW<|ae jv jj Z Z<|zh (h1) Z<|aO Z Z<|aj Z<|zq (s:=10) Z (fun c1=>?_) (fun c1=>?_)
  ·refine z7 Z Z c1<|z7 Z Z c1<|aw Z c1 Z<|aj Z<|z7 Z Z Z<|z7 Z Z Z<|z7 Z Z Z<|z7 Z Z Z<|z7 Z Z Z<|aw Z Z Z<|aj Z<|z7 Z Z Z<|z7 Z Z Z<|z7 Z Z Z<|z7 Z Z Z<|z7 Z Z Z<|z7 Z Z Z<|z7 Z Z Z<|aw Z Z Z<|z6 ?_
   exact ⟨_,(by repeat (first|with_reducible exact y5 _ _|refine yn rfl ?_)),aK,aH,by clear h1 h2 h3 hv2;simp_all<;>omega⟩
  ·refine z8 Z Z c1<|aa Z<|z8 Z Z c1<|ay Z Z<|ax Z c1 Z<|aj Z<|zq (s:=14) Z (fun c2=>?_) (fun c2=>?_)
   ·refine z7 Z Z c2<|z7 Z Z c2<|z7 Z Z c2<|z7 Z Z c2<|z7 Z Z c2<|aw Z c2 Z<|aj Z<|z7 Z Z Z<|z7 Z Z Z<|z7 Z Z Z<|z7 Z Z Z<|z7 Z Z Z<|z7 Z Z Z<|z7 Z Z Z<|aw Z Z Z<|z6 ?_
    exact ⟨_,(by repeat (first|with_reducible exact y5 _ _|refine yn rfl ?_)),aK,aH,by clear h1 h2 h3 hv2;simp_all<;>omega⟩
   ·refine z8 Z Z c2<|aa Z<|z8 Z Z c2<|au jg Z Yc Z Z<|z8 Z Z c2<|aI Yn Z<|z8 Z Z c2<|aq Z9 Z<|z8 Z Z c2<|za (q5 Z Z)<|ax Z c2 Z<|aj Z<|zq (s:=21) Z (fun c3=>?_) (fun c3=>?_)
    ·refine z7 Z Z c3<|z7 Z Z c3<|z7 Z Z c3<|z7 Z Z c3<|z7 Z Z c3<|z7 Z Z c3<|z7 Z Z c3<|aw Z c3 Z<|z6 ?_
     exact ⟨_,(by repeat (first|with_reducible exact y5 _ _|refine yn rfl ?_)),aK,aH,by clear h1 h2 h3 hv2;simp_all<;>omega⟩
    ·refine z8 Z Z c3<|au jg Z Yc Z Z<|z8 Z Z c3<|aI Yn Z<|z8 Z Z c3<|aa Z<|z8 Z Z c3<|za (bv c.toNat Z9 Yd Z Z hv2 hx)<|z8 Z Z c3<|au Zm Z X2 Z Z<|z8 Z Z c3<|aA Xh Z<|z8 Z Z c3<|aO Z Z<|ax Z c3 Z<|z6 ?_
     exact ⟨_,(by repeat (first|with_reducible exact y5 _ _|refine yn rfl ?_)),aK,aH,by clear h1 h2 h3 hv2;simp_all<;>omega⟩
 ·rintro u hu
  subst hu
  refine yg Z Z<|zi<|zd<|zr (fun j=>false) (by kernel_rfl) Z (zj (.rest _))<|ad 0 Z (yw jv jj Z Z)<|ad 1 Z (yw jv jj Z Z)<|ad 3 Z (cD Z)<|ad 4 Z (m5 Z)<|aQ 2 Z<|zh (h2) Z<|z6<|aQ 5 Z<|zh (h3) Z<|z6<|ad 6 Z (nI Z)<|bI<|zg<|zn (x:=.fro _ _) Z ?_
  rfl
theorem DL (K:KS) (r:ww):(gu K r).p=K.p:=by
 unfold gu;repeat' split
 ·exact cP ..
 ·exact cP ..
 ·exact lA ..
 ·rfl
theorem tR:∀(l:List ww) (K:KS),(l.foldl gu K).p=K.p
 |[],_=>rfl
 |r::l,K=>by rw[List.foldl_cons,tR l,DL]
theorem GT {f:ac} {i:Int} (h:¬(bd (ah f) f.blocks.length i).length=1):Ea f i=[]:=by
 unfold Ea
 split
 ·rename_i p e;rw[e] at h;exact absurd rfl h
 ·rfl
def tS (f:ac):AV:=lG eI (cT f f.blocks.length)
set_option maxHeartbeats 4000000 in
theorem BK {f:ac} {K:KS} {t a9 a10:AV} {iw js jl jm jp:Nat} {M:List Int} (hf:small f) (hL:bz E) (hR:b5 f) (ht:bi f=true) (hs:dD f=true) (hK:KB f K) {i:Nat} (hi:i<f.blocks.length) :
  aY prog E 69 [.po iw 0,.int .i64 i] (iM f t (tS f) a9 a10 iw js jl jm jp K M) (fun y O=>∃g:Nat,y=.tup []∧O=iM f t (tS f) a9 a10 iw js g jm jp (nY f K i) M∧True):=by
 refine qa (γ:=Nat) (x:=fun g=>.tup []) (M:=fun g=>iM f t (tS f) a9 a10 iw js g jm jp (nY f K i) M) (p:=fun _=>True) ?_
 have add:=fun jl K hK a b (ha:aU f a) (hb:aU f b) c=>gR (E:=E) (js:=js) (jm:=jm) (M:=M) jl K hK ha hb c
 have same:=fun jl jp np K hK a b (ha:aU f a) (hb:aU f b)=>md (E:=E) (t:=t) (pr:=tS f) (a9:=a9) (a10:=a10) (iw:=iw) (js:=js) (jm:=jm) (M:=M) jl jp np K hK ha hb
 have hget:((cT f f.blocks.length).map fun r=>[AV.fro 1 (r.map eI.row)])[i]?=some [.fro 1 ((bd (ah f) f.blocks.length i).map cX)]:=by rw[w2,jT f hi];rfl
 unfold iM at *
 unfold nY
 refine zp func69 Z (by decide) Z<|zd<|ai<|aJ Z<|ap Z<|za (zf j9 Z Xj (by decide) Z Z)<|za (zo (c:=.fro _ _) isAgg70 Z ⟨_,.head⟩ Z)<|aa Z<|za (Gv.idxF (j:=i) jh j7 Z Z Z hget)<|aI jf Z<|aq wy Z<|aO Z Z<|z6<|zy Z (fun c0=>?_) (fun c0=>?_)
 ·have hn:=GT (f:=f) (i:=i) (by intro e;rw[e] at c0;cases c0)
  rw[hn]
  refine zg<|yl ?_
  exact ⟨jl,rfl,⟨_,.refl _,rfl⟩,trivial⟩
 ·obtain ⟨p,hp⟩:∃p,bd (ah f) f.blocks.length i=[p]:=List.length_eq_one_iff.1 (by have h:=c0;simp at h;omega)
  obtain ⟨hp1,_⟩:=hR.pred hp
  have hpr:0≤p∧p<f.blocks.length:=Classical.byContradiction fun hn=>by rw[f7 hn] at hp1;cases hp1
  obtain ⟨q,rfl⟩:∃q:Nat,p=(q:Int):=⟨p.toNat,by omega⟩
  have hq:=qt (show q<f.blocks.length by omega)
  obtain ⟨B,hB⟩:∃B,f.blocks[q]=B:=⟨_,rfl⟩
  rw[hB] at hq
  have hbq:=dQ hq
  have hat:Ea f i=if B.term.kind=1∧B.term.to0≠B.term.to1 then jX f B.term.var (decide (B.term.to0=i)) else[]:=by unfold Ea;rw[hp];dsimp only;rw[hbq]
  rw[hp] at hget
  refine zi<|zd<|zr (fun j=>false) (by kernel_rfl) Z (zj (.r (.rest _)))<|ad 0 Z (cJ Z)<|ad 1 Z (zw Z)<|ad 2 Z (zf j9 Z jj (by decide) Z Z)<|ad 3 Z (zf jg Z Z8 (by decide) Z Z)<|ad 4 Z (zo (c:=.fro _ _) Zg Z ⟨_,.head⟩ Z)<|ad 5 Z (cJ Z)<|ad 6 Z (zw Z)<|ad 7 Z (zf j9 Z Xj (by decide) Z Z)<|ad 8 Z (zo (c:=.fro _ _) isAgg70 Z ⟨_,.head⟩ Z)<|ad 9 Z (cD Z)<|ad 10 Z (Gv.idxF (j:=i) jh j7 Z Z Z hget)<|ad 11 Z (e9 jf Z)<|ad 12 Z (bv 0 wy wz Z Z Z Z)<|ad 13 Z (cQ j6 Z)<|ad 14 Z (bv q ju jx Z Z Z hq)<|ad 15 Z (bK ji Z Zo Z Z)<|ad 16 Z (yw isAgg49 Zo Z Z)<|aQ 17 Z<|y7 (cs:=[.int .i64 0,.int .i64 0,.int .i64 0,.int .i64 0]) zeroValue49 Z Z<|fun i4=>z6<|aQ 18 Z<|y1 Zo Z Z Z Z Z Z .head Z<|z6<|bI<|zz (yd (t:=4) Z .t1)<|zd<|zd<|ye (γ:=Bool) [0,1,4] (fun u=>[(44,.bool u)]) (fun u=>[(iw,.cells 75 (lP f t (tS f) js jp K.p.length a9 a10)),(js,.cells 136 [.int .i64 ((f.vars.length+1:Nat):Int),.own jl K.l.length,.own jm M.length]),(jl,.grow 3 180 (K.l.map b8).flatten),(jm,.grow 1 3 (cI M)),(jp,.grow 2 187 (K.p.map b9).flatten)]) (fun u=>u=decide (¬(B.term.kind=1∧B.term.to0≠B.term.to1))) ?_ (fun _ _ h=>h) ?_
  ·refine aW<|au je Z Y0 Z Z<|aA Ye Z<|aO Z Z<|aj Z<|zq (s:=36) Z (fun c4=>?_) (fun c4=>?_)
   ·refine z7 Z Z c4<|z7 Z Z c4<|z7 Z Z c4<|z7 Z Z c4<|z7 Z Z c4<|z7 Z Z c4<|z7 Z Z c4<|aw Z c4 Z<|z6 ?_
    exact ⟨_,(by repeat (first|with_reducible exact y5 _ _|refine yn rfl ?_)),aK,aH,by simp_all⟩
   ·refine z8 Z Z c4<|au je Z Zd Z Z<|z8 Z Z c4<|za (q3 (j:=0) Z1 wz Z Z Z (by decide) Z)<|z8 Z Z c4<|aA j6 Z<|z8 Z Z c4<|au je Z Zd Z Z<|z8 Z Z c4<|za (q3 (j:=1) Z1 wz Z Z Z (by decide) Z)<|z8 Z Z c4<|aA j6 Z<|z8 Z Z c4<|ak Z Z<|ax Z c4 Z<|z6 ?_
    exact ⟨_,(by repeat (first|with_reducible exact y5 _ _|refine yn rfl ?_)),aK,aH,by simp_all⟩
  ·rintro u hu
   refine zy Z (fun cu=>?_) (fun cu=>?_)
   ·rw[hat,if_neg (wd (hu▸cu))]
    refine zg<|yl ?_
    exact ⟨jl,rfl,⟨_,.refl _,rfl⟩,trivial⟩
   ·have hc:B.term.kind=1∧B.term.to0≠B.term.to1:=by rw[hu] at cu;simpa using cu
    rw[hat,if_pos hc]
    have hbm:=w4 hq
    have hbT:=hR.hT B hbm
    have hvk:bc f B.term.var=true∧bg f B.term.var=1:=by
     have h1:=(hR.run.term _ hbm)
     unfold bC at h1
     rw[if_neg (by omega),if_pos hc.1] at h1
     unfold iH at hbT
     simp only[wa] at h1 hbT
     have h2:=hbT.2
     unfold dZ at h2
     rw[if_neg (by omega),if_pos hc.1] at h2
     simp only[wa] at h2
     exact ⟨h1.1.1,by simpa using h2.1.1⟩
    have hN:∀r∈jX f B.term.var (decide (B.term.to0=(i:Int))),vF f r:=sJ hR _ _ _ _ fun r hr=>(by cases hr)
    obtain ⟨R,hRe⟩:∃R,jX f B.term.var (decide (B.term.to0=(i:Int)))=R:=⟨_,rfl⟩
    have hKn:=vU (E:=E) f hf hL hR ht hs B.term.var (decide (B.term.to0=(i:Int))) hvk.1 hvk.2
    have hRl:=BJ hR (decide (B.term.to0=(i:Int))) hvk.1
    have hvl:=hf.1
    rw[hRe] at hN hKn hRl ⊢
    unfold bE at hKn
    refine zi<|zd<|zr (fun j=>false) (by kernel_rfl) Z (zj (.r (.rest _)))<|ad 0 Z (cJ Z)<|ad 1 Z (zw Z)<|ad 2 Z (zf j9 Z jj (by decide) Z Z)<|ad 3 Z (Gv.loadAC (l:=[_,_,_]) jv jj Z ⟨_,.head⟩ Z Z)<|ad 4 Z (bK je Z wz Z Z)<|ad 5 Z (cQ j6 Z)<|ad 6 Z (bK je Z Zd Z Z)<|ad 7 Z (q3 (j:=0) Z1 wz Z Z Z (by decide) Z)<|ad 8 Z (cQ j6 Z)<|ad 9 Z (cD Z)<|ad 10 Z (Gv.eqlI Z Z)<|ad 13 Z (cD Z)<|aQ 11 Z<|zh (hKn) Z<|z6<|ad 12 Z (Gv.lenM underlying181 Z)<|bI<|zm<|y8 (γ:=Nat × Nat) [0,56,57] (fun g=>[(58,.int .i64 g.1)]) (fun g=>[(iw,.cells 75 (lP f t (tS f) js jp K.p.length a9 a10)),(js,.cells 136 [.int .i64 ((f.vars.length+1:Nat):Int),.own g.2 ((R.take g.1).foldl gu K).l.length,.own jm M.length]),(g.2,.grow 3 180 (((R.take g.1).foldl gu K).l.map b8).flatten),(jm,.grow 1 3 (cI M)),(jp,.grow 2 187 (K.p.map b9).flatten)]) (fun g=>g.1≤R.length) (fun g=>R.length - g.1) (0,jl) aK aH (qw _) ?_
    rintro ⟨g,jq⟩ hg
    try dsimp only at *
    have hKB:KB f ((R.take g).foldl gu K):=KB.rels _ _ hK fun r hr=>hN r (List.mem_of_mem_take hr)
    have hKp:=tR (R.take g) K
    refine ai<|ay Z Z<|z6<|zd<|zt Z (fun cg=>?_) (fun cg=>?_)
    ·have hg2:g<R.length:=by simp at cg;omega
     obtain ⟨r,hr⟩:∃r,R[g]=r:=⟨_,rfl⟩
     have hgr:R[g]?=some r:=by rw[qt hg2,hr]
     have hrn:=hN r (w4 hgr)
     have hstep:(R.take (g+1)).foldl gu K=gu ((R.take g).foldl gu K) r:=by rw[List.take_add_one,hgr,List.foldl_append];rfl
     obtain ⟨Q,hQ⟩:∃Q,(R.take g).foldl gu K=Q:=⟨_,rfl⟩
     rw[hQ] at hKB hKp hstep
     have hQr:=DL Q r
     rw[hQ]
     refine zi<|zd<|zm<|ai<|za (bv g underlying181 sizeOf183 Z Z Z hgr)<|ae isAgg183 sizeOf183 Z Z<|y7 (cs:=[.int .i64 0,.int .i64 0,.int .i64 0]) zeroValue183 Z Z<|fun i6=>y1 sizeOf183 Z Z Z Z Z Z .head Z<|ze (yd (t:=6) Z .head)<|z6<|ai<|au Yy Z Z5 Z Z<|aA Zx Z<|z6<|zm<|ai<|ak Z Z<|ab Z<|z6<|zt Z (fun r0=>?_) (fun r0=>?_)
     ·have hre:gu Q r=em Q r.a r.b (-1):=by unfold gu;rw[if_pos (show r.n=0 from r0)]
      refine zr (fun j=>false) (by kernel_rfl) Z (zj (.r (.rest _)))<|ad 0 Z (cJ Z)<|ad 1 Z (zw Z)<|ad 2 Z (zf j9 Z Z7 (by decide) Z Z)<|ad 3 Z (zo (c:=.po _ _) Zf Z ⟨_,.head⟩ Z)<|ad 4 Z (bK Yy Z wz Z Z)<|ad 5 Z (cQ j6 Z)<|ad 6 Z (bK Yy Z wz Z Z)<|ad 7 Z (cQ j6 Z)<|aQ 8 Z<|zu Z (zj (.l (.l (.l (.r (.rest _)))))) (add jq Q hKB _ _ hrn.1.1 hrn.1.2 (-1)) ?_
      rintro r74 O74 ⟨⟨j1,u1⟩,rfl,rfl,_⟩
      refine z6<|bI<|zz (zb (zc .t4))<|zz (zb (zc .t4))<|zz (zb (zc .t4))<|zz (zb (zc .t4))<|zz (zb (zc .t4))<|aW<|aE Z Z<|aa Z<|z6 ?_
      exact ⟨(g+1,j1),db,aK,⟨_,(.refl _),by rw[hstep,hre]⟩,hg2,by dsimp only;omega⟩
     ·refine ai<|ak Z Z<|ab Z<|z6<|zt Z (fun r1=>?_) (fun r1=>?_)
      ·have hre:gu Q r=em Q r.a r.b 0:=by unfold gu;rw[if_neg (show ¬r.n=0 from r0),if_pos (show r.n=1 from r1)]
       refine zr (fun j=>false) (by kernel_rfl) Z (zj (.r (.rest _)))<|ad 0 Z (cJ Z)<|ad 1 Z (zw Z)<|ad 2 Z (zf j9 Z Z7 (by decide) Z Z)<|ad 3 Z (zo (c:=.po _ _) Zf Z ⟨_,.head⟩ Z)<|ad 4 Z (bK Yy Z wz Z Z)<|ad 5 Z (cQ j6 Z)<|ad 6 Z (bK Yy Z wz Z Z)<|ad 7 Z (cQ j6 Z)<|aQ 8 Z<|zu Z (zj (.l (.l (.l (.r (.rest _)))))) (add jq Q hKB _ _ hrn.1.1 hrn.1.2 0) ?_
       rintro r85 O85 ⟨⟨j1,u1⟩,rfl,rfl,_⟩
       refine z6<|bI<|zz (zb (zc .t4))<|zz (zb (zc .t4))<|zz (zb (zc .t4))<|zz (zb (zc .t4))<|zz (zb (zc .t4))<|aW<|aE Z Z<|aa Z<|z6 ?_
       exact ⟨(g+1,j1),db,aK,⟨_,(.refl _),by rw[hstep,hre]⟩,hg2,by dsimp only;omega⟩
      ·refine ai<|ak Z Z<|ab Z<|z6<|zt Z (fun r2=>?_) (fun r2=>?_)
       ·have hre:gu Q r=iz Q r.a r.b:=by unfold gu;rw[if_neg (show ¬r.n=0 from r0),if_neg (show ¬r.n=1 from r1),if_pos (show r.n=2 from r2)]
        refine aW<|aJ Z<|au Yy Z wz Z Z<|aA j6 Z<|au Yy Z wz Z Z<|aA j6 Z<|zu Z (zj (.l (.l (.l (.l (.r (.rest _))))))) (same jq jp K.p.length Q hKB _ _ hrn.1.1 hrn.1.2) ?_
        rintro r93 O93 ⟨j1,rfl,rfl,_⟩
        refine z6<|zz (zb (zc .t4))<|zz (zb (zc .t4))<|zz (zb (zc .t4))<|zz (zb (zc .t4))<|zz (zb (zc .t4))<|aW<|aE Z Z<|aa Z<|z6 ?_
        exact ⟨(g+1,j1),db,aK,⟨_,(.refl _),by rw[hstep,hre]⟩,hg2,by dsimp only;omega⟩
       ·exfalso
        have h0:¬r.n=0:=r0
        have h1:¬r.n=1:=r1
        have h2:¬r.n=2:=r2
        have:=hrn.2
        omega
    ·obtain rfl:g=R.length:=by simp at cg;omega
     rw[qy]
     refine y6<|yl ?_
     exact ⟨jq,rfl,⟨_,.refl _,by rw[tR]⟩,trivial⟩
end Go.Proofs.YtdilpodccjlkgaaGreatDoor
namespace Go.Proofs.YtdilpodccjlkgaaGreatDoor
open Go.Proofs.Tryz
def dK (f:ac) (K:KS) (v:Int):Int:=fm f K 100000 v
section
variable {f:ac} (hR:b5 f) {K:KS} {v:Int}
include hR
theorem iC:dK f K v=fm f K (ro f v+1) v:=k6 hR K _ _ v (hR.rk_low v) (Nat.lt_succ_self _)
theorem Ad (hm:dx f v=none):dK f K v=0:=by rw[iC hR];unfold fm;rw[hm]
variable {x:aF} (hm:dx f v=some x)
include hm
theorem IE (h:x.op=8):dK f K v=fY (e8 f K (bj x) (b7 x) (-1)) (e8 f K (b7 x) (bj x) 0):=by rw[iC hR];unfold fm;rw[hm];dsimp only;rw[if_pos h]
theorem IF (h:x.op=9):dK f K v=fY (e8 f K (bj x) (b7 x) 0) (e8 f K (b7 x) (bj x) (-1)):=by rw[iC hR];unfold fm;rw[hm];dsimp only;rw[if_neg (by omega),if_pos h]
theorem IG (h:x.op=7):dK f K v=fY (e8 f K (bj x) (b7 x) 0&&e8 f K (b7 x) (bj x) 0) (e8 f K (bj x) (b7 x) (-1)||e8 f K (b7 x) (bj x) (-1)):=by rw[iC hR];unfold fm;rw[hm];dsimp only;rw[if_neg (by omega),if_neg (by omega),if_pos h]
theorem tT (h:0<x.args.length):fm f K (ro f v) (bj x)=dK f K (bj x):=k6 hR K _ _ _ (hR.rk0 hm h) (hR.rk_low _)
theorem Fp (h:1<x.args.length):fm f K (ro f v) (b7 x)=dK f K (b7 x):=k6 hR K _ _ _ (hR.rk1 hm h) (hR.rk_low _)
theorem IH (h:x.op=1) (hl:0<x.args.length):dK f K v=dK f K (bj x):=by
 rw[iC hR];unfold fm;rw[hm];dsimp only
 rw[if_neg (by omega),if_neg (by omega),if_neg (by omega),if_pos h,tT hR hm hl]
theorem H0 (h:x.op=10) (hl:0<x.args.length):dK f K v=fY (decide (dK f K (bj x)=2)) (decide (dK f K (bj x)=1)):=by
 rw[iC hR];unfold fm;rw[hm];dsimp only
 rw[if_neg (by omega),if_neg (by omega),if_neg (by omega),if_neg (by omega),if_pos h,tT hR hm hl]
theorem H1 (h:x.op=11) (hl:1<x.args.length):dK f K v=fY (decide (dK f K (bj x)=1)&&decide (dK f K (b7 x)=1)) (decide (dK f K (bj x)=2)||decide (dK f K (b7 x)=2)):=by
 rw[iC hR];unfold fm;rw[hm];dsimp only
 rw[if_neg (by omega),if_neg (by omega),if_neg (by omega),if_neg (by omega),if_neg (by omega),if_pos h,tT hR hm (by omega),Fp hR hm hl]
theorem Fq (h:¬x.op=8∧¬x.op=9∧¬x.op=7∧¬x.op=1∧¬x.op=10∧¬x.op=11):dK f K v=0:=by
 rw[iC hR];unfold fm;rw[hm];dsimp only
 rw[if_neg h.1,if_neg h.2.1,if_neg h.2.2.1,if_neg h.2.2.2.1,if_neg h.2.2.2.2.1,if_neg h.2.2.2.2.2]
end
def mI (es:List (Int × Int)):List (Int × AV):=es.map fun p=>(p.1,.int .i64 p.2)
def Hk (k n:Int):List (Int × Int)→List (Int × Int)
 |[]=>[(k,n)]
 |(k',m)::es=>if k=k' then (k,n)::es else (k',m)::Hk k n es
theorem Ae (k n:Int):∀es,am k (.int .i64 n) (mI es)=mI (Hk k n es)
 |[]=>rfl
 |(k',m)::es=>by
  have ih:=Ae k n es
  unfold mI at ih ⊢
  rw[List.map_cons]
  unfold am Hk
  by_cases h:k=k'
  ·rw[if_pos h,if_pos h];rfl
  ·rw[if_neg h,if_neg h,ih];rfl
def Ec (f:ac) (K:KS) (es:List (Int × Int)):Prop:=∀v x,ag v (mI es)=some x→x=.int .i64 (dK f K v)
theorem Ec.emp (f:ac) (K:KS):Ec f K []:=fun v x h=>by cases h
theorem Ec.put {f:ac} {K:KS} {es:List (Int × Int)} (h:Ec f K es) (v:Int):Ec f K (Hk v (dK f K v) es):=fun u x hx=>by
 rw[←Ae,F2] at hx
 split at hx
 ·rename_i e;subst e;cases hx;rfl
 ·exact h u x hx
end Go.Proofs.YtdilpodccjlkgaaGreatDoor
