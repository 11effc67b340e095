/- A table of edges: what each instruction puts into it. Of programs that are little. -/
import Derived.Test.YtbanfokidalbaaaGreatDoorJp
set_option linter.unusedVariables false
set_option linter.unusedSimpArgs false
set_option linter.unusedSectionVars false
namespace Go.Proofs.YtbanfokidalbaaaGreatDoor
open Go.Proofs.Tryz
open Go.Proofs Go.Lib Go.Shelf Go.RowKit
variable {E:World}
set_option maxRecDepth 20000
theorem rN (f:ad) (hS:bx f) (l:List be) (hll:l.length=f.vars.length) (up:Bool) (i:Nat) (X:AV) {a:Int} (ha:bz f a=true) :
  ba prog E 150 [.po i 0,.int .i64 a] [(i,.cells 150 (fV f l up X))] fun y O=>y=.bool (li f l a)∧O=[(i,.cells 150 (fV f l up X))]:=
 ba.lendP (fun _ _ _ h=>wR h) (D3 f hS l hll up X ha)
set_option maxHeartbeats 4000000 in
theorem AB (f:ad) (hS:bx f) (l:List be) (hll:l.length=f.vars.length) (up:Bool) (i io:Nat) (es:List dI) (hb:es.length≤90000000) (x:aN) (ho:x.op=5∨x.op=6) {xa xb:Int} (hxa:x.args=[xa,xb]) (ha:bz f xa=true) (hb2:bz f xb=true) :
  ba prog E 112 [.po i 0,.agg (cK x)] (ls f l up i io es) (Az f l up i (es++gD f l up x)):=by
 have e0:x0 x=xa:=by unfold x0;rw[hxa];rfl
 have e1:x1 x=xb:=by unfold x1;rw[hxa];rfl
 have hpa:=fun X=>rN (E:=E) f hS l hll up i X ha
 have hpb:=fun X=>rN (E:=E) f hS l hll up i X hb2
 obtain ⟨p,hp⟩:∃p,li f l xa=p:=⟨_,rfl⟩
 obtain ⟨q,hq⟩:∃q,li f l xb=q:=⟨_,rfl⟩
 have hre:gD f l up x=(if (if x.op=5 then p&&q else p)=true then[if up=true then (xa,x.dst,0) else (n0 f,x.dst,0)] else[])++iz (decide (x.op=6)&&(q&&up)) (xb,x.dst,-1):=by
  unfold gD qP;rw[e0,e1,hp,hq]
 rw[hre]
 rw[hp] at hpa
 rw[hq] at hpb
 refine ba.tab ?_
 unfold ls fV
 refine zo func112 Z (by decide) Z<|ah<|yb (cs:=_) Z Z Z<|z6<|zc<|y7 (fun j=>false) (by kernel_rfl) Z (zn (.rest _))<|au 0 Z (cA j8 Z jg Z Z)<|au 1 Z (iS jn Z)<|au 2 Z (bD 0 j9 ja Z Z Z (by rw[hxa];rfl)) ?_
 refine au 3 Z (du jc Z)<|au 4 Z (cA j8 Z jg Z Z)<|au 5 Z (iS jn Z)<|au 6 Z (bD 1 j9 ja Z Z Z (by rw[hxa];rfl)) ?_
 refine au 7 Z (du jc Z)<|au 8 Z (Fa Z)<|au 9 Z (Fa Z)<|bY<|ah<|aY Z<|aa Z<|zu Z (zn (.l (.r (.rest _)))) (hpa _) ?_
 rintro r18 O18 ⟨rfl,rfl⟩
 refine aY Z<|aa Z<|zu Z (zn (.l (.r (.rest _)))) (hpb _) ?_
 rintro r21 O21 ⟨rfl,rfl⟩
 refine ac Z<|ac Z<|z6<|zc<|ah<|ae j8 Z Zq Z Z<|ax Zz Z<|aj Z Z<|z6<|yf (γ:=Bool) [0,3,4,5,7] (fun P=>[(6,.bool P)]) (fun P=>[(i,.cells 150 (fV f l up (.own io es.length))),(io,.grow 3 72 (eC es))]) (fun P=>P=if x.op=5 then p&&q else p) ?_ (fun _ _ h=>h) ?_
 ·refine zp Z (fun c5=>?_) (fun c5=>?_)
  ·refine aM<|ai Z<|ai Z<|zm (s:=26) Z (fun cp=>?_) (fun cp=>?_)
   ·refine z8 Z Z cp<|ai Z<|ap Z cp Z<|ac Z<|z6 ?_
    exact ⟨_,iT,aG,aC,by rw[if_pos c5,show p=true from cp];rfl⟩
   ·refine z7 Z Z cp<|aq Z cp Z<|ac Z<|z6 ?_
    exact ⟨_,iT,aG,aC,by rw[if_pos c5,show p=false from cp];rfl⟩
  ·refine zd ?_
   exact ⟨_,iT,aG,aC,by rw[if_neg c5]⟩
 ·rintro P hP
  rw[←hP]
  clear hP
  refine zc<|yf (γ:=List dI × Nat) [0,3,5,7] (fun g=>[]) (fun g=>[(i,.cells 150 (fV f l up (.own g.2 g.1.length))),(g.2,.grow 3 72 (eC g.1))]) (fun g=>g.1=es++(if P=true then[if up=true then (xa,x.dst,0) else (n0 f,x.dst,0)] else[])∧g.1.length≤es.length+1) ?_ (fun _ _ h=>h) ?_
  ·refine zh<|ah<|ai Z<|ai Z<|zm (s:=31) Z (fun cP=>?_) (fun cP=>?_)
   ·refine z8 Z Z cP<|aY Z<|z8 Z Z cP<|za (yc Z)<|z8 Z Z cP<|za (zr jw Z Z5 (by decide) Z Z)<|z8 Z Z cP<|za (zw (c:=.bool _) Zm Z ⟨_,.head⟩ Z)<|ap Z cP Z<|ac Z<|z6<|zt Z (fun cu=>?_) (fun cu=>?_)
    ·refine aM<|aY Z<|ae j8 Z ja Z Z<|ax jc Z<|aa Z<|zu Z (zn (.l (.l (.rest _)))) (bl f l up i io es (by omega) x.dst xa 0) ?_
     rintro r41 O41 ⟨jo,rfl,rfl,_⟩
     refine z6 ?_
     exact ⟨(es++[(xa,x.dst,0)],jo),e7,trivial,aC,by dsimp only;rw[if_pos (show P=true from cP),if_pos (show up=true from cu)];exact ⟨rfl,by simp⟩⟩
    ·refine ah<|ai Z<|ac Z<|z6<|zt Z (fun c2=>?_) (fun c2=>?_)
     ·refine y7 (fun j=>false) (by kernel_rfl) Z (zn (.rest _))<|au 0 Z (l2 Z)<|au 1 Z (cA j8 Z ja Z Z)<|au 2 Z (du jc Z)<|au 3 Z (l2 Z)<|au 4 Z (yc Z)<|au 5 Z (zr jw Z ja (by decide) Z Z)<|aV 6 Z<|za (zw (c:=.int _ _) jc Z ⟨_,.head⟩ Z)<|z6<|aV 7 Z<|zu Z (zn (.l (.l (.rest _)))) (bl f l up i io es (by omega) x.dst (n0 f) 0) ?_
      rintro r51 O51 ⟨jo,rfl,rfl,_⟩
      refine z6<|bY ?_
      exact ⟨(es++[(n0 f,x.dst,0)],jo),e7,trivial,aC,by dsimp only;rw[if_pos (show P=true from cP),if_neg (by rw[show up=false from cu];decide)];exact ⟨rfl,by simp⟩⟩
     ·exfalso;rw[show P=true from cP] at c2;cases c2
   ·refine z7 Z Z cP<|z7 Z Z cP<|z7 Z Z cP<|z7 Z Z cP<|aq Z cP Z<|ac Z<|z6<|yj Z Z<|ah<|ai Z<|ac Z<|z6<|zt Z (fun c2=>?_) (fun c2=>?_)
    ·exfalso;rw[show P=false from cP] at c2;cases c2
    ·refine zd ?_
     exact ⟨(es,io),e7,trivial,aC,by dsimp only;rw[if_neg (by rw[show P=false from cP];decide)];exact ⟨by simp,by omega⟩⟩
  ·rintro ⟨es2,io⟩ ⟨hes2,hle2⟩
   rw[←qs,←hes2]
   clear hes2
   refine zc<|yf (γ:=Bool) [0,3,5] (fun u=>[(63,.bool u)]) (fun u=>[(i,.cells 150 (fV f l up (.own io es2.length))),(io,.grow 3 72 (eC es2))]) (fun u=>u=(decide (x.op=6)&&(q&&up))) ?_ (fun _ _ h=>h) ?_
   ·refine aM<|ae j8 Z Zq Z Z<|ax Zz Z<|aj Z Z<|ai Z<|zm (s:=55) Z (fun c1=>?_) (fun c1=>?_)
    ·refine z8 Z Z c1<|ai Z<|ap Z c1 Z<|ai Z<|zm (s:=58) Z (fun c2=>?_) (fun c2=>?_)
     ·refine z8 Z Z c2<|aY Z<|z8 Z Z c2<|za (yc Z)<|z8 Z Z c2<|za (zr jw Z Z5 (by decide) Z Z)<|z8 Z Z c2<|za (zw (c:=.bool _) Zm Z ⟨_,.head⟩ Z)<|ap Z c2 Z<|z6 ?_
      exact ⟨_,dC,aG,aC,by simp_all⟩
     ·refine z7 Z Z c2<|z7 Z Z c2<|z7 Z Z c2<|z7 Z Z c2<|aq Z c2 Z<|z6 ?_
      exact ⟨_,dC,aG,aC,by simp_all⟩
    ·refine z7 Z Z c1<|aq Z c1 Z<|ai Z<|z7 Z Z Z<|z7 Z Z Z<|z7 Z Z Z<|z7 Z Z Z<|aq Z Z Z<|z6 ?_
     exact ⟨_,dC,aG,aC,by simp_all⟩
   ·rintro u hu
    rw[←hu]
    clear hu
    refine zt Z (fun c=>?_) (fun c=>?_)
    ·refine aM<|aY Z<|ae j8 Z ja Z Z<|ax jc Z<|aa Z<|zu Z (zn (.l (.l (.rest _)))) (bl f l up i io es2 (by dsimp only at hle2;omega) x.dst xb (-1)) ?_
     rintro r68 O68 ⟨jo,rfl,rfl,_⟩
     refine z6<|ym ?_
     exact yu (by rw[show u=true from c];rfl) ⟨_,.refl _,rfl⟩
    ·refine zd<|ym ?_
     exact yu (io:=io) (by rw[show u=false from c];unfold iz;simp) ⟨_,.refl _,rfl⟩
set_option maxHeartbeats 4000000 in
theorem Gt (f:ad) (l:List be) (up:Bool) (i io:Nat) (es:List dI) (hb:es.length≤90000000) (x:aN) {xa xb:Int} (hxa:x.args=[xa,xb]) :
  ba prog E 113 [.po i 0,.agg (cK x)] (ls f l up i io es) (Az f l up i (es++Bs up x)):=by
 have e0:x0 x=xa:=by unfold x0;rw[hxa];rfl
 have e1:x1 x=xb:=by unfold x1;rw[hxa];rfl
 have hpi:es++Bs up x=es++[(xa,x.dst,0)]++(if up=true∧x.num=0 then[(xb,x.dst,-1)] else if (up=true∧(x.num=1∨x.num=2))∨(up=false∧(x.num=2∨x.num=3)) then[(xb,x.dst,0)] else if up=false∧x.num=4 then[(xb,x.dst,1)] else[]):=by
  unfold Bs;rw[e0,e1];simp
 rw[hpi]
 have hl1:(es++[(xa,x.dst,(0:Int))]).length≤100000000:=by rw[qw];simp;omega
 obtain ⟨es1,he1⟩:∃es1,es++[(xa,x.dst,(0:Int))]=es1:=⟨_,rfl⟩
 rw[he1] at hl1
 have hp0:=bl (E:=E) f l up i io es (by omega) x.dst xa 0
 rw[he1] at hp0 ⊢
 refine ba.tab ?_
 unfold ls fV
 refine zo func113 Z (by decide) Z<|ah<|yb (cs:=_) Z Z Z<|z6<|zc<|y7 (fun j=>false) (by kernel_rfl) Z (zn (.rest _))<|au 0 Z (cA j8 Z jg Z Z)<|au 1 Z (iS jn Z)<|au 2 Z (bD 0 j9 ja Z Z Z (by rw[hxa];rfl)) ?_
 refine au 3 Z (du jc Z)<|au 4 Z (cA j8 Z jg Z Z)<|au 5 Z (iS jn Z)<|au 6 Z (bD 1 j9 ja Z Z Z (by rw[hxa];rfl)) ?_
 refine au 7 Z (du jc Z)<|au 8 Z (Fa Z)<|au 9 Z (Fa Z)<|bY<|ah<|aY Z<|ae j8 Z ja Z Z<|ax jc Z<|aa Z<|zu Z (zn (.l (.l (.rest _)))) (hp0) ?_
 rintro r18 O18 ⟨j1,rfl,rfl,_⟩
 refine z6<|zh<|ah<|aY Z<|za (yc Z)<|za (zr jw Z Z5 (by decide) Z Z)<|za (zw (c:=.bool _) Zm Z ⟨_,.head⟩ Z)<|ai Z<|zm (s:=24) Z (fun c3=>?_) (fun c3=>?_)
 ·refine z8 Z Z c3<|ae j8 Z ji Z Z<|z8 Z Z c3<|ax jp Z<|z8 Z Z c3<|aj Z Z<|ap Z c3 Z<|ac Z<|z6<|zt Z (fun c4=>?_) (fun c4=>?_)
  ·refine aM<|aY Z<|ae j8 Z ja Z Z<|ax jc Z<|aa Z<|zu Z (zn (.l (.l (.rest _)))) (bl f l up i j1 es1 hl1 x.dst xb (-1)) ?_
   rintro r33 O33 ⟨jo,rfl,rfl,_⟩
   refine z6<|ym ?_
   exact yu (by simp_all) ⟨_,.refl _,rfl⟩
  ·refine zc<|ah<|aY Z<|za (yc Z)<|za (zr jw Z Z5 (by decide) Z Z)<|za (zw (c:=.bool _) Zm Z ⟨_,.head⟩ Z)<|ai Z<|zm (s:=39) Z (fun c5=>?_) (fun c5=>?_)
   ·refine z8 Z Z c5<|ae j8 Z ji Z Z<|z8 Z Z c5<|ax jp Z<|z8 Z Z c5<|aj Z Z<|z8 Z Z c5<|ai Z<|zm (s:=43) Z (fun c6=>?_) (fun c6=>?_)
    ·refine z7 Z Z c6<|z7 Z Z c6<|z7 Z Z c6<|z8 Z Z c5<|ap Z c6 Z<|ap Z c5 Z<|ac Z<|z6<|yt Z Z<|zd<|yt Z Z<|aM<|aY Z<|ae j8 Z ja Z Z<|ax jc Z<|aa Z<|zu Z (zn (.l (.l (.rest _)))) (bl f l up i j1 es1 hl1 x.dst xb 0) ?_
     rintro r68 O68 ⟨jo,rfl,rfl,_⟩
     refine z6<|ym ?_
     exact yu (by simp_all) ⟨_,.refl _,rfl⟩
    ·refine z8 Z Z c6<|ae j8 Z ji Z Z<|z8 Z Z c6<|ax jp Z<|z8 Z Z c6<|aj Z Z<|z8 Z Z c5<|aq Z c6 Z<|ap Z c5 Z<|ac Z<|z6<|zt Z (fun c7=>?_) (fun c7=>?_)
     ·refine zd<|zt Z (fun c8=>?_) (fun c8=>?_)
      ·refine aM<|aY Z<|ae j8 Z ja Z Z<|ax jc Z<|aa Z<|zu Z (zn (.l (.l (.rest _)))) (bl f l up i j1 es1 hl1 x.dst xb 0) ?_
       rintro r68 O68 ⟨jo,rfl,rfl,_⟩
       refine z6<|ym ?_
       exact yu (by simp_all) ⟨_,.refl _,rfl⟩
      ·refine ah<|aY Z<|za (yc Z)<|za (zr jw Z Z5 (by decide) Z Z)<|za (zw (c:=.bool _) Zm Z ⟨_,.head⟩ Z)<|aF Z<|ai Z<|zm (s:=75) Z (fun c9=>?_) (fun c9=>?_)
       ·refine z8 Z Z c9<|ae j8 Z ji Z Z<|z8 Z Z c9<|ax jp Z<|z8 Z Z c9<|aj Z Z<|ap Z c9 Z<|ac Z<|z6<|zt Z (fun c10=>?_) (fun c10=>?_)
        ·refine aM<|aY Z<|ae j8 Z ja Z Z<|ax jc Z<|aa Z<|zu Z (zn (.l (.l (.rest _)))) (bl f l up i j1 es1 hl1 x.dst xb 1) ?_
         rintro r84 O84 ⟨jo,rfl,rfl,_⟩
         refine z6<|ym ?_
         exact yu (by simp_all) ⟨_,.refl _,rfl⟩
        ·refine zd<|ym ?_
         exact yu (by simp_all) ⟨_,.refl _,rfl⟩
       ·refine z7 Z Z c9<|z7 Z Z c9<|z7 Z Z c9<|aq Z c9 Z<|ac Z<|z6<|yj Z Z<|zd<|ym ?_
        exact yu (by simp_all) ⟨_,.refl _,rfl⟩
     ·refine aM<|aY Z<|za (yc Z)<|za (zr jw Z Z5 (by decide) Z Z)<|za (zw (c:=.bool _) Zm Z ⟨_,.head⟩ Z)<|aF Z<|ai Z<|zm (s:=54) Z (fun c11=>?_) (fun c11=>?_)
      ·refine z8 Z Z c11<|ae j8 Z ji Z Z<|z8 Z Z c11<|ax jp Z<|z8 Z Z c11<|aj Z Z<|z8 Z Z c11<|ai Z<|zm (s:=58) Z (fun c12=>?_) (fun c12=>?_)
       ·refine z7 Z Z c12<|z7 Z Z c12<|z7 Z Z c12<|z8 Z Z c11<|ap Z c12 Z<|ap Z c11 Z<|ac Z<|z6<|yt Z Z<|aM<|aY Z<|ae j8 Z ja Z Z<|ax jc Z<|aa Z<|zu Z (zn (.l (.l (.rest _)))) (bl f l up i j1 es1 hl1 x.dst xb 0) ?_
        rintro r68 O68 ⟨jo,rfl,rfl,_⟩
        refine z6<|ym ?_
        exact yu (by simp_all) ⟨_,.refl _,rfl⟩
       ·refine z8 Z Z c12<|ae j8 Z ji Z Z<|z8 Z Z c12<|ax jp Z<|z8 Z Z c12<|aj Z Z<|z8 Z Z c11<|aq Z c12 Z<|ap Z c11 Z<|ac Z<|z6<|zt Z (fun c13=>?_) (fun c13=>?_)
        ·refine aM<|aY Z<|ae j8 Z ja Z Z<|ax jc Z<|aa Z<|zu Z (zn (.l (.l (.rest _)))) (bl f l up i j1 es1 hl1 x.dst xb 0) ?_
         rintro r68 O68 ⟨jo,rfl,rfl,_⟩
         refine z6<|ym ?_
         exact yu (by simp_all) ⟨_,.refl _,rfl⟩
        ·refine ah<|aY Z<|za (yc Z)<|za (zr jw Z Z5 (by decide) Z Z)<|za (zw (c:=.bool _) Zm Z ⟨_,.head⟩ Z)<|aF Z<|ai Z<|zm (s:=75) Z (fun c14=>?_) (fun c14=>?_)
         ·refine z8 Z Z c14<|ae j8 Z ji Z Z<|z8 Z Z c14<|ax jp Z<|z8 Z Z c14<|aj Z Z<|ap Z c14 Z<|ac Z<|z6<|zt Z (fun c15=>?_) (fun c15=>?_)
          ·refine aM<|aY Z<|ae j8 Z ja Z Z<|ax jc Z<|aa Z<|zu Z (zn (.l (.l (.rest _)))) (bl f l up i j1 es1 hl1 x.dst xb 1) ?_
           rintro r84 O84 ⟨jo,rfl,rfl,_⟩
           refine z6<|ym ?_
           exact yu (by simp_all) ⟨_,.refl _,rfl⟩
          ·refine zd<|ym ?_
           exact yu (by simp_all) ⟨_,.refl _,rfl⟩
         ·refine z7 Z Z c14<|z7 Z Z c14<|z7 Z Z c14<|aq Z c14 Z<|ac Z<|z6<|yj Z Z<|zd<|ym ?_
          exact yu (by simp_all) ⟨_,.refl _,rfl⟩
      ·refine z7 Z Z c11<|z7 Z Z c11<|z7 Z Z c11<|z7 Z Z c11<|zb Z Z<|zb Z Z<|zb Z Z<|z7 Z Z c11<|aq Z c11 Z<|ac Z<|z6<|yj Z Z<|ah<|aY Z<|za (yc Z)<|za (zr jw Z Z5 (by decide) Z Z)<|za (zw (c:=.bool _) Zm Z ⟨_,.head⟩ Z)<|aF Z<|ai Z<|zm (s:=75) Z (fun c16=>?_) (fun c16=>?_)
       ·refine z8 Z Z c16<|ae j8 Z ji Z Z<|z8 Z Z c16<|ax jp Z<|z8 Z Z c16<|aj Z Z<|ap Z c16 Z<|ac Z<|z6<|zt Z (fun c17=>?_) (fun c17=>?_)
        ·refine aM<|aY Z<|ae j8 Z ja Z Z<|ax jc Z<|aa Z<|zu Z (zn (.l (.l (.rest _)))) (bl f l up i j1 es1 hl1 x.dst xb 1) ?_
         rintro r84 O84 ⟨jo,rfl,rfl,_⟩
         refine z6<|ym ?_
         exact yu (by simp_all) ⟨_,.refl _,rfl⟩
        ·refine zd<|ym ?_
         exact yu (by simp_all) ⟨_,.refl _,rfl⟩
       ·refine z7 Z Z c16<|z7 Z Z c16<|z7 Z Z c16<|aq Z c16 Z<|ac Z<|z6<|yj Z Z<|zd<|ym ?_
        exact yu (by simp_all) ⟨_,.refl _,rfl⟩
   ·refine z7 Z Z c5<|z7 Z Z c5<|z7 Z Z c5<|z7 Z Z c5<|zb Z Z<|zb Z Z<|zb Z Z<|z7 Z Z c5<|aq Z c5 Z<|ac Z<|z6<|yj Z Z<|aM<|aY Z<|za (yc Z)<|za (zr jw Z Z5 (by decide) Z Z)<|za (zw (c:=.bool _) Zm Z ⟨_,.head⟩ Z)<|aF Z<|ai Z<|zm (s:=54) Z (fun c18=>?_) (fun c18=>?_)
    ·refine z8 Z Z c18<|ae j8 Z ji Z Z<|z8 Z Z c18<|ax jp Z<|z8 Z Z c18<|aj Z Z<|z8 Z Z c18<|ai Z<|zm (s:=58) Z (fun c19=>?_) (fun c19=>?_)
     ·refine z7 Z Z c19<|z7 Z Z c19<|z7 Z Z c19<|z8 Z Z c18<|ap Z c19 Z<|ap Z c18 Z<|ac Z<|z6<|yt Z Z<|aM<|aY Z<|ae j8 Z ja Z Z<|ax jc Z<|aa Z<|zu Z (zn (.l (.l (.rest _)))) (bl f l up i j1 es1 hl1 x.dst xb 0) ?_
      rintro r68 O68 ⟨jo,rfl,rfl,_⟩
      refine z6<|ym ?_
      exact yu (by simp_all) ⟨_,.refl _,rfl⟩
     ·refine z8 Z Z c19<|ae j8 Z ji Z Z<|z8 Z Z c19<|ax jp Z<|z8 Z Z c19<|aj Z Z<|z8 Z Z c18<|aq Z c19 Z<|ap Z c18 Z<|ac Z<|z6<|zt Z (fun c20=>?_) (fun c20=>?_)
      ·refine aM<|aY Z<|ae j8 Z ja Z Z<|ax jc Z<|aa Z<|zu Z (zn (.l (.l (.rest _)))) (bl f l up i j1 es1 hl1 x.dst xb 0) ?_
       rintro r68 O68 ⟨jo,rfl,rfl,_⟩
       refine z6<|ym ?_
       exact yu (by simp_all) ⟨_,.refl _,rfl⟩
      ·refine ah<|aY Z<|za (yc Z)<|za (zr jw Z Z5 (by decide) Z Z)<|za (zw (c:=.bool _) Zm Z ⟨_,.head⟩ Z)<|aF Z<|ai Z<|zm (s:=75) Z (fun c21=>?_) (fun c21=>?_)
       ·refine z8 Z Z c21<|ae j8 Z ji Z Z<|z8 Z Z c21<|ax jp Z<|z8 Z Z c21<|aj Z Z<|ap Z c21 Z<|ac Z<|z6<|zt Z (fun c22=>?_) (fun c22=>?_)
        ·refine aM<|aY Z<|ae j8 Z ja Z Z<|ax jc Z<|aa Z<|zu Z (zn (.l (.l (.rest _)))) (bl f l up i j1 es1 hl1 x.dst xb 1) ?_
         rintro r84 O84 ⟨jo,rfl,rfl,_⟩
         refine z6<|ym ?_
         exact yu (by simp_all) ⟨_,.refl _,rfl⟩
        ·refine zd<|ym ?_
         exact yu (by simp_all) ⟨_,.refl _,rfl⟩
       ·refine z7 Z Z c21<|z7 Z Z c21<|z7 Z Z c21<|aq Z c21 Z<|ac Z<|z6<|yj Z Z<|zd<|ym ?_
        exact yu (by simp_all) ⟨_,.refl _,rfl⟩
    ·refine z7 Z Z c18<|z7 Z Z c18<|z7 Z Z c18<|z7 Z Z c18<|zb Z Z<|zb Z Z<|zb Z Z<|z7 Z Z c18<|aq Z c18 Z<|ac Z<|z6<|yj Z Z<|ah<|aY Z<|za (yc Z)<|za (zr jw Z Z5 (by decide) Z Z)<|za (zw (c:=.bool _) Zm Z ⟨_,.head⟩ Z)<|aF Z<|ai Z<|zm (s:=75) Z (fun c23=>?_) (fun c23=>?_)
     ·refine z8 Z Z c23<|ae j8 Z ji Z Z<|z8 Z Z c23<|ax jp Z<|z8 Z Z c23<|aj Z Z<|ap Z c23 Z<|ac Z<|z6<|zt Z (fun c24=>?_) (fun c24=>?_)
      ·refine aM<|aY Z<|ae j8 Z ja Z Z<|ax jc Z<|aa Z<|zu Z (zn (.l (.l (.rest _)))) (bl f l up i j1 es1 hl1 x.dst xb 1) ?_
       rintro r84 O84 ⟨jo,rfl,rfl,_⟩
       refine z6<|ym ?_
       exact yu (by simp_all) ⟨_,.refl _,rfl⟩
      ·refine zd<|ym ?_
       exact yu (by simp_all) ⟨_,.refl _,rfl⟩
     ·refine z7 Z Z c23<|z7 Z Z c23<|z7 Z Z c23<|aq Z c23 Z<|ac Z<|z6<|yj Z Z<|zd<|ym ?_
      exact yu (by simp_all) ⟨_,.refl _,rfl⟩
 ·refine z7 Z Z c3<|z7 Z Z c3<|z7 Z Z c3<|aq Z c3 Z<|ac Z<|z6<|yj Z Z<|zc<|ah<|aY Z<|za (yc Z)<|za (zr jw Z Z5 (by decide) Z Z)<|za (zw (c:=.bool _) Zm Z ⟨_,.head⟩ Z)<|ai Z<|zm (s:=39) Z (fun c25=>?_) (fun c25=>?_)
  ·refine z8 Z Z c25<|ae j8 Z ji Z Z<|z8 Z Z c25<|ax jp Z<|z8 Z Z c25<|aj Z Z<|z8 Z Z c25<|ai Z<|zm (s:=43) Z (fun c26=>?_) (fun c26=>?_)
   ·refine z7 Z Z c26<|z7 Z Z c26<|z7 Z Z c26<|z8 Z Z c25<|ap Z c26 Z<|ap Z c25 Z<|ac Z<|z6<|yt Z Z<|zd<|yt Z Z<|aM<|aY Z<|ae j8 Z ja Z Z<|ax jc Z<|aa Z<|zu Z (zn (.l (.l (.rest _)))) (bl f l up i j1 es1 hl1 x.dst xb 0) ?_
    rintro r68 O68 ⟨jo,rfl,rfl,_⟩
    refine z6<|ym ?_
    exact yu (by simp_all) ⟨_,.refl _,rfl⟩
   ·refine z8 Z Z c26<|ae j8 Z ji Z Z<|z8 Z Z c26<|ax jp Z<|z8 Z Z c26<|aj Z Z<|z8 Z Z c25<|aq Z c26 Z<|ap Z c25 Z<|ac Z<|z6<|zt Z (fun c27=>?_) (fun c27=>?_)
    ·refine zd<|zt Z (fun c28=>?_) (fun c28=>?_)
     ·refine aM<|aY Z<|ae j8 Z ja Z Z<|ax jc Z<|aa Z<|zu Z (zn (.l (.l (.rest _)))) (bl f l up i j1 es1 hl1 x.dst xb 0) ?_
      rintro r68 O68 ⟨jo,rfl,rfl,_⟩
      refine z6<|ym ?_
      exact yu (by simp_all) ⟨_,.refl _,rfl⟩
     ·refine ah<|aY Z<|za (yc Z)<|za (zr jw Z Z5 (by decide) Z Z)<|za (zw (c:=.bool _) Zm Z ⟨_,.head⟩ Z)<|aF Z<|ai Z<|zm (s:=75) Z (fun c29=>?_) (fun c29=>?_)
      ·refine z8 Z Z c29<|ae j8 Z ji Z Z<|z8 Z Z c29<|ax jp Z<|z8 Z Z c29<|aj Z Z<|ap Z c29 Z<|ac Z<|z6<|zt Z (fun c30=>?_) (fun c30=>?_)
       ·refine aM<|aY Z<|ae j8 Z ja Z Z<|ax jc Z<|aa Z<|zu Z (zn (.l (.l (.rest _)))) (bl f l up i j1 es1 hl1 x.dst xb 1) ?_
        rintro r84 O84 ⟨jo,rfl,rfl,_⟩
        refine z6<|ym ?_
        exact yu (by simp_all) ⟨_,.refl _,rfl⟩
       ·refine zd<|ym ?_
        exact yu (by simp_all) ⟨_,.refl _,rfl⟩
      ·refine z7 Z Z c29<|z7 Z Z c29<|z7 Z Z c29<|aq Z c29 Z<|ac Z<|z6<|yj Z Z<|zd<|ym ?_
       exact yu (by simp_all) ⟨_,.refl _,rfl⟩
    ·refine aM<|aY Z<|za (yc Z)<|za (zr jw Z Z5 (by decide) Z Z)<|za (zw (c:=.bool _) Zm Z ⟨_,.head⟩ Z)<|aF Z<|ai Z<|zm (s:=54) Z (fun c31=>?_) (fun c31=>?_)
     ·refine z8 Z Z c31<|ae j8 Z ji Z Z<|z8 Z Z c31<|ax jp Z<|z8 Z Z c31<|aj Z Z<|z8 Z Z c31<|ai Z<|zm (s:=58) Z (fun c32=>?_) (fun c32=>?_)
      ·refine z7 Z Z c32<|z7 Z Z c32<|z7 Z Z c32<|z8 Z Z c31<|ap Z c32 Z<|ap Z c31 Z<|ac Z<|z6<|yt Z Z<|aM<|aY Z<|ae j8 Z ja Z Z<|ax jc Z<|aa Z<|zu Z (zn (.l (.l (.rest _)))) (bl f l up i j1 es1 hl1 x.dst xb 0) ?_
       rintro r68 O68 ⟨jo,rfl,rfl,_⟩
       refine z6<|ym ?_
       exact yu (by simp_all) ⟨_,.refl _,rfl⟩
      ·refine z8 Z Z c32<|ae j8 Z ji Z Z<|z8 Z Z c32<|ax jp Z<|z8 Z Z c32<|aj Z Z<|z8 Z Z c31<|aq Z c32 Z<|ap Z c31 Z<|ac Z<|z6<|zt Z (fun c33=>?_) (fun c33=>?_)
       ·refine aM<|aY Z<|ae j8 Z ja Z Z<|ax jc Z<|aa Z<|zu Z (zn (.l (.l (.rest _)))) (bl f l up i j1 es1 hl1 x.dst xb 0) ?_
        rintro r68 O68 ⟨jo,rfl,rfl,_⟩
        refine z6<|ym ?_
        exact yu (by simp_all) ⟨_,.refl _,rfl⟩
       ·refine ah<|aY Z<|za (yc Z)<|za (zr jw Z Z5 (by decide) Z Z)<|za (zw (c:=.bool _) Zm Z ⟨_,.head⟩ Z)<|aF Z<|ai Z<|zm (s:=75) Z (fun c34=>?_) (fun c34=>?_)
        ·refine z8 Z Z c34<|ae j8 Z ji Z Z<|z8 Z Z c34<|ax jp Z<|z8 Z Z c34<|aj Z Z<|ap Z c34 Z<|ac Z<|z6<|zt Z (fun c35=>?_) (fun c35=>?_)
         ·refine aM<|aY Z<|ae j8 Z ja Z Z<|ax jc Z<|aa Z<|zu Z (zn (.l (.l (.rest _)))) (bl f l up i j1 es1 hl1 x.dst xb 1) ?_
          rintro r84 O84 ⟨jo,rfl,rfl,_⟩
          refine z6<|ym ?_
          exact yu (by simp_all) ⟨_,.refl _,rfl⟩
         ·refine zd<|ym ?_
          exact yu (by simp_all) ⟨_,.refl _,rfl⟩
        ·refine z7 Z Z c34<|z7 Z Z c34<|z7 Z Z c34<|aq Z c34 Z<|ac Z<|z6<|yj Z Z<|zd<|ym ?_
         exact yu (by simp_all) ⟨_,.refl _,rfl⟩
     ·refine z7 Z Z c31<|z7 Z Z c31<|z7 Z Z c31<|z7 Z Z c31<|zb Z Z<|zb Z Z<|zb Z Z<|z7 Z Z c31<|aq Z c31 Z<|ac Z<|z6<|yj Z Z<|ah<|aY Z<|za (yc Z)<|za (zr jw Z Z5 (by decide) Z Z)<|za (zw (c:=.bool _) Zm Z ⟨_,.head⟩ Z)<|aF Z<|ai Z<|zm (s:=75) Z (fun c36=>?_) (fun c36=>?_)
      ·refine z8 Z Z c36<|ae j8 Z ji Z Z<|z8 Z Z c36<|ax jp Z<|z8 Z Z c36<|aj Z Z<|ap Z c36 Z<|ac Z<|z6<|zt Z (fun c37=>?_) (fun c37=>?_)
       ·refine aM<|aY Z<|ae j8 Z ja Z Z<|ax jc Z<|aa Z<|zu Z (zn (.l (.l (.rest _)))) (bl f l up i j1 es1 hl1 x.dst xb 1) ?_
        rintro r84 O84 ⟨jo,rfl,rfl,_⟩
        refine z6<|ym ?_
        exact yu (by simp_all) ⟨_,.refl _,rfl⟩
       ·refine zd<|ym ?_
        exact yu (by simp_all) ⟨_,.refl _,rfl⟩
      ·refine z7 Z Z c36<|z7 Z Z c36<|z7 Z Z c36<|aq Z c36 Z<|ac Z<|z6<|yj Z Z<|zd<|ym ?_
       exact yu (by simp_all) ⟨_,.refl _,rfl⟩
  ·refine z7 Z Z c25<|z7 Z Z c25<|z7 Z Z c25<|z7 Z Z c25<|zb Z Z<|zb Z Z<|zb Z Z<|z7 Z Z c25<|aq Z c25 Z<|ac Z<|z6<|yj Z Z<|aM<|aY Z<|za (yc Z)<|za (zr jw Z Z5 (by decide) Z Z)<|za (zw (c:=.bool _) Zm Z ⟨_,.head⟩ Z)<|aF Z<|ai Z<|zm (s:=54) Z (fun c38=>?_) (fun c38=>?_)
   ·refine z8 Z Z c38<|ae j8 Z ji Z Z<|z8 Z Z c38<|ax jp Z<|z8 Z Z c38<|aj Z Z<|z8 Z Z c38<|ai Z<|zm (s:=58) Z (fun c39=>?_) (fun c39=>?_)
    ·refine z7 Z Z c39<|z7 Z Z c39<|z7 Z Z c39<|z8 Z Z c38<|ap Z c39 Z<|ap Z c38 Z<|ac Z<|z6<|yt Z Z<|aM<|aY Z<|ae j8 Z ja Z Z<|ax jc Z<|aa Z<|zu Z (zn (.l (.l (.rest _)))) (bl f l up i j1 es1 hl1 x.dst xb 0) ?_
     rintro r68 O68 ⟨jo,rfl,rfl,_⟩
     refine z6<|ym ?_
     exact yu (by simp_all) ⟨_,.refl _,rfl⟩
    ·refine z8 Z Z c39<|ae j8 Z ji Z Z<|z8 Z Z c39<|ax jp Z<|z8 Z Z c39<|aj Z Z<|z8 Z Z c38<|aq Z c39 Z<|ap Z c38 Z<|ac Z<|z6<|zt Z (fun c40=>?_) (fun c40=>?_)
     ·refine aM<|aY Z<|ae j8 Z ja Z Z<|ax jc Z<|aa Z<|zu Z (zn (.l (.l (.rest _)))) (bl f l up i j1 es1 hl1 x.dst xb 0) ?_
      rintro r68 O68 ⟨jo,rfl,rfl,_⟩
      refine z6<|ym ?_
      exact yu (by simp_all) ⟨_,.refl _,rfl⟩
     ·refine ah<|aY Z<|za (yc Z)<|za (zr jw Z Z5 (by decide) Z Z)<|za (zw (c:=.bool _) Zm Z ⟨_,.head⟩ Z)<|aF Z<|ai Z<|zm (s:=75) Z (fun c41=>?_) (fun c41=>?_)
      ·refine z8 Z Z c41<|ae j8 Z ji Z Z<|z8 Z Z c41<|ax jp Z<|z8 Z Z c41<|aj Z Z<|ap Z c41 Z<|ac Z<|z6<|zt Z (fun c42=>?_) (fun c42=>?_)
       ·refine aM<|aY Z<|ae j8 Z ja Z Z<|ax jc Z<|aa Z<|zu Z (zn (.l (.l (.rest _)))) (bl f l up i j1 es1 hl1 x.dst xb 1) ?_
        rintro r84 O84 ⟨jo,rfl,rfl,_⟩
        refine z6<|ym ?_
        exact yu (by simp_all) ⟨_,.refl _,rfl⟩
       ·refine zd<|ym ?_
        exact yu (by simp_all) ⟨_,.refl _,rfl⟩
      ·refine z7 Z Z c41<|z7 Z Z c41<|z7 Z Z c41<|aq Z c41 Z<|ac Z<|z6<|yj Z Z<|zd<|ym ?_
       exact yu (by simp_all) ⟨_,.refl _,rfl⟩
   ·refine z7 Z Z c38<|z7 Z Z c38<|z7 Z Z c38<|z7 Z Z c38<|zb Z Z<|zb Z Z<|zb Z Z<|z7 Z Z c38<|aq Z c38 Z<|ac Z<|z6<|yj Z Z<|ah<|aY Z<|za (yc Z)<|za (zr jw Z Z5 (by decide) Z Z)<|za (zw (c:=.bool _) Zm Z ⟨_,.head⟩ Z)<|aF Z<|ai Z<|zm (s:=75) Z (fun c43=>?_) (fun c43=>?_)
    ·refine z8 Z Z c43<|ae j8 Z ji Z Z<|z8 Z Z c43<|ax jp Z<|z8 Z Z c43<|aj Z Z<|ap Z c43 Z<|ac Z<|z6<|zt Z (fun c44=>?_) (fun c44=>?_)
     ·refine aM<|aY Z<|ae j8 Z ja Z Z<|ax jc Z<|aa Z<|zu Z (zn (.l (.l (.rest _)))) (bl f l up i j1 es1 hl1 x.dst xb 1) ?_
      rintro r84 O84 ⟨jo,rfl,rfl,_⟩
      refine z6<|ym ?_
      exact yu (by simp_all) ⟨_,.refl _,rfl⟩
     ·refine zd<|ym ?_
      exact yu (by simp_all) ⟨_,.refl _,rfl⟩
    ·refine z7 Z Z c43<|z7 Z Z c43<|z7 Z Z c43<|aq Z c43 Z<|ac Z<|z6<|yj Z Z<|zd<|ym ?_
     exact yu (by simp_all) ⟨_,.refl _,rfl⟩
theorem KM {x:aN} (h:x.args.length=2):∃a b,x.args=[a,b]:=match x.args,h with
 |[a,b],_=>⟨a,b,rfl⟩
theorem Gu {op:Int} (h:op=1∨op=12∨op=15):1≤(bq op).length:=by rcases h with rfl|rfl|rfl<;>decide
theorem rO {op:Int} (h:op=2∨op=3∨op=5∨op=6∨op=25∨op=26):(bq op).length=2:=by rcases h with rfl|rfl|rfl|rfl|rfl|rfl<;>decide
set_option maxHeartbeats 4000000 in
theorem AC (f:ad) (hf:small f) (hS:bx f) (hE:bF f) (l:List be) (hll:l.length=f.vars.length) (hok:∀u:Int,0≤u→cY (lv l u)) (up:Bool) (i io:Nat) (es:List dI) (hb:es.length≤80000000) (x:aN) (hI:tJ f x) (block at_:Nat) :
  ba prog E 71 [.po i 0,.agg (cK x),.int .i64 block,.int .i64 at_] (ls f l up i io es) (Az f l up i (es++cT f l up x block at_)):=by
 have htwo:x.op=2∨x.op=3∨x.op=5∨x.op=6∨x.op=25∨x.op=26→∃a b,x.args=[a,b]∧x0 x=a∧x1 x=b∧bz f a=true∧bz f b=true:=fun h=>by
  obtain ⟨a,b,e⟩:=KM (by rw[hI.len];exact rO h)
  exact ⟨a,b,e,by unfold x0;rw[e];rfl,by unfold x1;rw[e];rfl,hI.args a (by rw[e];simp),hI.args b (by rw[e];simp)⟩
 rw[cT]
 refine ba.tab ?_
 unfold ls fV
 refine zo func71 Z (by decide) Z<|ah<|yb (cs:=_) Z Z Z<|z6<|ah<|ae j8 Z Zq Z Z<|ax Zz Z<|z6<|zh<|ah<|aj Z Z<|ac Z<|z6<|zp Z (fun c0=>?_) (fun c0=>?_)
 ·refine y7 (fun j=>false) (by kernel_rfl) Z (zn (.rest _))<|au 0 Z (l2 Z)<|au 1 Z (cA j8 Z ja Z Z)<|au 2 Z (du jc Z)<|au 3 Z (l2 Z)<|au 4 Z (yc Z)<|au 5 Z (zr jw Z ja (by decide) Z Z)<|au 7 Z (cA j8 Z ji Z Z)<|au 8 Z (du jp Z)<|aV 6 Z<|za (zw (c:=.int _ _) jc Z ⟨_,.head⟩ Z)<|z6<|aV 9 Z<|zu Z (zn (.l (.l (.rest _)))) (bl f l up i io es (by omega) x.dst (n0 f) x.num) ?_
  rintro r21 O21 ⟨jo,rfl,rfl,_⟩
  refine z6<|bY<|ym ?_
  exact yu (by rw[if_pos c0]) ⟨_,.refl _,rfl⟩
 ·rw[if_neg c0]
  refine zc<|ah<|aj Z Z<|ac Z<|z6<|yf (γ:=Bool) [0,2,3,5,9] (fun u=>[(22,.bool u)]) (fun u=>[(i,.cells 150 (fV f l up (.own io es.length))),(io,.grow 3 72 (eC es))]) (fun u=>u=decide (x.op=1∨x.op=12∨x.op=15)) ?_ (fun _ _ h=>h) ?_
  ·refine zt Z (fun c45=>?_) (fun c45=>?_)
   ·refine zd ?_
    exact ⟨_,iT,aG,aC,by simp_all⟩
   ·refine ah<|aj Z Z<|ac Z<|z6<|zt Z (fun c46=>?_) (fun c46=>?_)
    ·refine zd ?_
     exact ⟨_,iT,aG,aC,by simp_all⟩
    ·refine aM<|aj Z Z<|ac Z<|z6 ?_
     exact ⟨_,iT,aG,aC,by simp_all⟩
  ·rintro u hu
   subst hu
   refine zp Z (fun c1=>?_) (fun c1=>?_)
   ·have hl1:1≤x.args.length:=by rw[hI.len];exact Gu c1
    obtain ⟨xa,hxa⟩:∃xa,x.args[0]?=some xa:=⟨_,qq (by omega)⟩
    have e0:x0 x=xa:=by unfold x0;rw[hxa];rfl
    refine y7 (fun j=>false) (by kernel_rfl) Z (zn (.rest _))<|au 0 Z (l2 Z)<|au 1 Z (cA j8 Z ja Z Z)<|au 2 Z (du jc Z)<|au 3 Z (cA j8 Z jg Z Z)<|au 4 Z (iS jn Z)<|au 5 Z (bD 0 j9 ja Z Z Z hxa)<|au 6 Z (du jc Z)<|aV 7 Z<|zu Z (zn (.l (.l (.rest _)))) (bl f l up i io es (by omega) x.dst xa 0) ?_
    rintro r33 O33 ⟨jo,rfl,rfl,_⟩
    refine z6<|bY<|ym ?_
    exact yu (by rw[if_pos c1,e0]) ⟨_,.refl _,rfl⟩
   ·rw[if_neg c1]
    refine zc<|ah<|aj Z Z<|ac Z<|z6<|yf (γ:=Bool) [0,2,3,5,9] (fun u=>[(34,.bool u)]) (fun u=>[(i,.cells 150 (fV f l up (.own io es.length))),(io,.grow 3 72 (eC es))]) (fun u=>u=decide (x.op=2∨x.op=3)) ?_ (fun _ _ h=>h) ?_
    ·refine zt Z (fun c47=>?_) (fun c47=>?_)
     ·refine zd ?_
      exact ⟨_,iT,aG,aC,by simp_all⟩
     ·refine aM<|aj Z Z<|ac Z<|z6 ?_
      exact ⟨_,iT,aG,aC,by simp_all⟩
    ·rintro u hu
     subst hu
     refine zp Z (fun c2=>?_) (fun c2=>?_)
     ·obtain ⟨xa,xb,hxa,e0,e1,ha,hb2⟩:=htwo (by omega)
      refine aM<|aY Z<|ab Ye Z9 Z Z<|aa Z<|aa Z<|zu Z (zn (.l (.l (.rest _)))) (D5 f hf hS hE l hll hok up i io es (by omega) x c2 hxa ha hb2 block at_) ?_
      rintro r41 O41 ⟨jo,rfl,rfl,_⟩
      refine z6<|ym ?_
      exact yu (by rw[if_pos c2]) ⟨_,.refl _,rfl⟩
     ·rw[if_neg c2]
      refine zc<|ah<|aj Z Z<|ac Z<|z6<|yf (γ:=Bool) [0,5,9] (fun u=>[(42,.bool u)]) (fun u=>[(i,.cells 150 (fV f l up (.own io es.length))),(io,.grow 3 72 (eC es))]) (fun u=>u=decide (x.op=5∨x.op=6)) ?_ (fun _ _ h=>h) ?_
      ·refine zt Z (fun c48=>?_) (fun c48=>?_)
       ·refine zd ?_
        exact ⟨_,dC,aG,aC,by simp_all⟩
       ·refine aM<|aj Z Z<|ac Z<|z6 ?_
        exact ⟨_,dC,aG,aC,by simp_all⟩
      ·rintro u hu
       subst hu
       refine zp Z (fun c5=>?_) (fun c5=>?_)
       ·obtain ⟨xa,xb,hxa,e0,e1,ha,hb2⟩:=htwo (by omega)
        refine aM<|aY Z<|ab Ye Z9 Z Z<|zu Z (zn (.l (.l (.rest _)))) (AB f hS l hll up i io es (by omega) x c5 hxa ha hb2) ?_
        rintro r47 O47 ⟨jo,rfl,rfl,_⟩
        refine z6<|ym ?_
        exact yu (by rw[if_pos c5]) ⟨_,.refl _,rfl⟩
       ·rw[if_neg c5]
        refine ah<|aj Z Z<|ac Z<|z6<|zp Z (fun c16=>?_) (fun c16=>?_)
        ·refine y7 (fun j=>false) (by kernel_rfl) Z (zn (.rest _))<|au 0 Z (l2 Z)<|au 1 Z (cA j8 Z ja Z Z)<|au 2 Z (du jc Z)<|au 3 Z (l2 Z)<|au 4 Z (yc Z)<|au 5 Z (zr jw Z ja (by decide) Z Z)<|aV 6 Z<|za (zw (c:=.int _ _) jc Z ⟨_,.head⟩ Z)<|z6<|aV 7 Z<|zu Z (zn (.l (.l (.rest _)))) (bl f l up i io es (by omega) x.dst (n0 f) 0) ?_
         rintro r57 O57 ⟨jo,rfl,rfl,_⟩
         refine z6<|bY<|ym ?_
         exact yu (by rw[if_pos c16]) ⟨_,.refl _,rfl⟩
        ·rw[if_neg c16]
         refine ah<|aj Z Z<|ac Z<|z6<|zp Z (fun c25=>?_) (fun c25=>?_)
         ·obtain ⟨xa,xb,hxa,e0,e1,ha,hb2⟩:=htwo (by omega)
          refine aM<|aY Z<|ab Ye Z9 Z Z<|zu Z (zn (.l (.l (.rest _)))) (Gt f l up i io es (by omega) x hxa) ?_
          rintro r62 O62 ⟨jo,rfl,rfl,_⟩
          refine z6<|ym ?_
          exact yu (by rw[if_pos c25]) ⟨_,.refl _,rfl⟩
         ·rw[if_neg c25]
          refine ah<|aj Z Z<|ac Z<|z6<|zp Z (fun c26=>?_) (fun c26=>?_)
          ·obtain ⟨xa,xb,hxa,e0,e1,ha,hb2⟩:=htwo (by omega)
           refine zc<|y7 (fun j=>false) (by kernel_rfl) Z (zn (.rest _))<|au 0 Z (l2 Z)<|au 1 Z (cA j8 Z ja Z Z)<|au 2 Z (du jc Z)<|au 3 Z (cA j8 Z jg Z Z)<|au 4 Z (iS jn Z)<|au 5 Z (bD 0 j9 ja Z Z Z (by rw[hxa];rfl)) ?_
           refine au 6 Z (du jc Z)<|aV 7 Z<|zu Z (zn (.l (.l (.rest _)))) (bl f l up i io es (by omega) x.dst xa 0) ?_
           rintro r72 O72 ⟨j1,rfl,rfl,_⟩
           refine z6<|bY<|ah<|aY Z<|za (yc Z)<|za (zr jw Z Z5 (by decide) Z Z)<|za (zw (c:=.bool _) Zm Z ⟨_,.head⟩ Z)<|z6<|zt Z (fun cu=>?_) (fun cu=>?_)
           ·refine y7 (fun j=>false) (by kernel_rfl) Z (zn (.rest _))<|au 0 Z (l2 Z)<|au 1 Z (cA j8 Z ja Z Z)<|au 2 Z (du jc Z)<|au 3 Z (cA j8 Z jg Z Z)<|au 4 Z (iS jn Z)<|au 5 Z (bD 1 j9 ja Z Z Z (by rw[hxa];rfl)) ?_
            refine au 6 Z (du jc Z)<|aV 7 Z<|zu Z (zn (.l (.l (.rest _)))) (bl f l up i j1 (es++[(xa,x.dst,0)]) (by rw[qw];simp;omega) x.dst xb (-1)) ?_
            rintro r84 O84 ⟨jo,rfl,rfl,_⟩
            refine z6<|bY<|ym ?_
            exact yu (by rw[if_pos c26,if_pos (show up=true from cu),e0,e1];simp) ⟨_,.refl _,rfl⟩
           ·refine y7 (fun j=>false) (by kernel_rfl) Z (zn (.rest _))<|au 0 Z (l2 Z)<|au 1 Z (cA j8 Z ja Z Z)<|au 2 Z (du jc Z)<|au 3 Z (l2 Z)<|au 4 Z (yc Z)<|au 5 Z (zr jw Z ja (by decide) Z Z)<|aV 6 Z<|za (zw (c:=.int _ _) jc Z ⟨_,.head⟩ Z)<|z6<|aV 7 Z<|zu Z (zn (.l (.l (.rest _)))) (bl f l up i j1 (es++[(xa,x.dst,0)]) (by rw[qw];simp;omega) x.dst (n0 f) 0) ?_
            rintro r92 O92 ⟨jo,rfl,rfl,_⟩
            refine z6<|bY<|ym ?_
            exact yu (by rw[if_pos c26,if_neg (by rw[show up=false from cu];decide),e0];simp) ⟨_,.refl _,rfl⟩
          ·refine zd<|ym ?_
           exact yu (io:=io) (by rw[if_neg c26,w5]) ⟨_,.refl _,rfl⟩
end Go.Proofs.YtbanfokidalbaaaGreatDoor
