/- Steps of going up to where two meet, of the places in an order, and of the rounds that look for the nearest. No conditions. -/
import Derived.Test.YthphijnnbfjikaaGreatDoorJj
import Derived.Test.YthphijnnbfjikaaGreatDoorJe
import Derived.Test.YthphijnnbfjikaaGreatDoorJc
set_option linter.unusedVariables false
set_option linter.unusedSimpArgs false
set_option linter.unusedSectionVars false
namespace Go.Proofs.YthphijnnbfjikaaGreatDoor
section
open Go.Proofs.Tryz
open Go.Proofs Go.Lib Go.Shelf Go.RowKit
theorem CG:dt prog 59 9 1 1 [.str ⟨#[]⟩]:=⟨_,Zt,sizeOf9,zeroValue9,by decide,by decide,by kernel_rfl⟩
set_option maxRecDepth 20000
variable {E:World}
def tA (s:ByteArray) (l:List ByteArray):Bool:=l.any fun t=>decide (t=s)
theorem xa {s:ByteArray} {l:List ByteArray}:tA s l=true↔s∈l:=by
 unfold tA;rw[List.any_eq_true]
 constructor
 ·rintro ⟨x,hx,h⟩;have h:x=s:=by simpa using h
  exact h▸hx
 ·intro h;exact ⟨s,h,by simp⟩
theorem CH {s t:ByteArray} {l:List ByteArray}:tA s (l++[t])=(tA s l||decide (t=s)):=by unfold tA;rw[List.any_append];simp
def vt (l:List ByteArray):Prop:=∀i (h:i<l.length),dJ l[i]=true∧tA l[i] (l.take i)=false
instance (l:List ByteArray):Decidable (vt l):=by unfold vt;infer_instance
theorem xb {t:ByteArray} {l:List ByteArray} {mt:Int} (ht:mt=if tA t l=true then 1 else 0) (hc:decide (0<mt)=false):tA t l=false:=by
 have hc:=of_decide_eq_false hc
 cases h:tA t l with
 |true=>rw[h] at ht;simp at ht;omega
 |false=>rfl
theorem CI {s t:ByteArray} {l:List ByteArray} {m:Option Int} {mt:Int} (hs:m.getD 0=if tA s l=true then 1 else 0) (ht:mt=if tA t l=true then 1 else 0) (hc:decide (0<mt)=false) :
  (if s=t then some (mt+1) else m).getD 0=if (tA s l||decide (t=s))=true then 1 else 0:=by
 have h:=xb ht hc
 rw[h] at ht
 have ht:mt=0:=by simpa using ht
 by_cases e:s=t
 ·subst e;simp[ht]
 ·rw[if_neg e,hs]
  have e2:¬t=s:=fun h=>e h.symm
  simp[e2]
theorem CJ {l:List ByteArray} {k:Nat} (hn:∀i (h:i<l.length),i<k→dJ l[i]=true∧tA l[i] (l.take i)=false) (hk:k<l.length) (h1:dJ l[k]=true) (h2:tA l[k] (l.take k)=false) :
  ∀i (h:i<l.length),i<k+1→dJ l[i]=true∧tA l[i] (l.take i)=false:=fun i h hi=>by
 by_cases e:i=k
 ·subst e;exact ⟨h1,h2⟩
 ·exact hn i h (by omega)
theorem mm (l:List ByteArray) (hl:l.length≤100000000) (hs:∀s∈l,s.size≤140737488355328) (hL:aE E):aF prog E 105 [.fro 1 (l.map pc)] (.bool (decide (vt l))):=by
 refine zk func105 Z (by decide) Z<|ae<|ad Z<|z6<|ae<|ai.makeMap<|fun b6=>z7 (y7 (v:=gE _) Z)<|z6<|ze<|ae<|bh Z<|au Zt Z<|aa Z<|z6<|zj<|ya (γ:=Nat × List (ByteArray × Int)) [3,7,8] (fun g=>[(9,.int .i64 g.1)]) (fun g=>[(0,yP b6 g.2)]) (fun g=>g.1≤l.length∧(∀i (h:i<l.length),i<g.1→dJ l[i]=true∧tA l[i] (l.take i)=false)∧∀s,(iH s g.2).getD 0=if tA s (l.take g.1)=true then 1 else 0) (fun g=>l.length - g.1) (0,[]) aT aJ (⟨qm _,fun i h h2=>absurd h2 (Nat.not_lt_zero _),fun s=>Z⟩) ?_
 rintro ⟨k,es⟩ ⟨hk,hn,hm⟩
 try dsimp only at *
 refine ae<|ax Z Z<|z6<|ze<|zp Z (fun ck=>?_) (fun ck=>?_)
 ·have hk2:k<l.length:=by omega
  have hmk:=hm l[k]
  have hz:=hs _ (qn hk2)
  refine zi<|ze<|zj<|ae<|z7 (db k Zt sizeOf9 Z Z Z (qj hk2))<|z7 (q7 (c:=.str _) isAgg9 Z)<|z7 (y7 (v:=.str _) Z)<|z6<|ze<|ae<|z7 (yb (v:=.str _) Z)<|zg (vp _ hz hL) Z<|z7 (yo Z)<|ay Z<|zx (s:=16) Z (fun c1=>?_) (fun c1=>?_)
  ·refine z8 Z Z c1<|z8 Z Z c1<|z8 Z Z c1<|z8 Z Z c1<|aM Z c1 Z<|z6<|yq Z Z<|ae<|ad Z<|z6<|zh<|zm (x:=.bool _) Z ?_
   exact jb (decide_eq_false fun h=>by have h:=h k hk2;simp_all).symm
  ·refine za Z Z c1<|z7 (yb (v:=gE _) Z)<|za Z Z c1<|z7 (yb (v:=.str _) Z)<|za Z Z c1<|z7 (Gv.lookup1S underlying110 Y5 Y1 Z Z ⟨_,.head⟩)<|za Z Z c1<|z7 (Gv.gtr Z Z)<|aD Z c1 Z<|z6<|zz Z (fun c2=>?_) (fun c2=>?_)
   ·refine ae<|ad Z<|z6<|zh<|zm (x:=.bool _) Z ?_
    exact jb (decide_eq_false fun h=>by have h:=h k hk2;simp_all).symm
   ·refine zi<|bD<|z7 (yb (v:=gE _) Z)<|z7 (yb (v:=.str _) Z)<|z7 (Gv.lookup1S underlying110 Y5 Y1 Z Z ⟨_,.head⟩)<|z7 (Gv.add Z Z (by first|(unfold pq;omega)|(unfold pq;rw[hmk];split<;>omega)))<|ai.mapSet underlying110 Y5 Z Z Z .head<|z6<|bD<|z7 (Gv.add Z Z (by first|(unfold pq;omega)|(unfold pq;rw[hmk];split<;>omega)))<|aa Z<|z6 ?_
    exact ⟨(k+1,mD l[k] ((iH l[k] es).getD 0+1) es),bX,aT,aJ,⟨hk2,CJ hn hk2 (by simpa using c1) (xb hmk (by assumption)),fun s=>by dsimp only;rw[sT,qk hk2,CH];exact CI (hm s) hmk (by assumption)⟩,by dsimp only;omega⟩
 ·have hkn:k=l.length:=by omega
  refine y8<|ae<|ad Z<|z6<|zh<|zm (x:=.bool _) Z ?_
  exact jb (decide_eq_true fun i h=>hn i h (by omega)).symm
theorem map_take {α:Type} {g:α→ByteArray} {l:List α} {k:Nat} (h:k<l.length):(l.map g).take (k+1)=(l.map g).take k++[g l[k]]:=by
 rw[qk (by simpa using h)];simp
def cL (f:ac):List ByteArray:=f.vars.map AO.name
def da (f:ac):List ByteArray:=f.blocks.map aW.name
@[simp] theorem Ik (f:ac):(cL f).length=f.vars.length:=by unfold cL;simp
@[simp] theorem Il (f:ac):(da f).length=f.blocks.length:=by unfold da;simp
theorem Eh {f:ac} {k:Nat} (h:k<f.vars.length):(cL f).take (k+1)=(cL f).take k++[f.vars[k].name]:=map_take h
theorem Ei {f:ac} {k:Nat} (h:k<f.blocks.length):(da f).take (k+1)=(da f).take k++[f.blocks[k].name]:=map_take h
def Ej (f:ac):Prop:=∀i (h:i<f.params.length),f.params[i]=(i:Int)
instance (f:ac):Decidable (Ej f):=by unfold Ej;infer_instance
def Ek (f:ac):Prop:=∀i (h:i<f.vars.length),¬gZ f.vars[i].ty=⟨#[]⟩
instance (f:ac):Decidable (Ek f):=by unfold Ek;infer_instance
def kc (f:ac):Prop:=f.vars.length≤512∧f.params.length≤8∧f.params.length≤f.vars.length∧1≤f.blocks.length∧f.blocks.length≤64
instance (f:ac):Decidable (kc f):=by unfold kc;infer_instance
def ei (f:ac):Prop:=Ek f∧Ej f∧kc f∧vt (cL f)∧vt (da f)
instance (f:ac):Decidable (ei f):=by unfold ei;infer_instance
theorem tB (f:ac) (h1:f.vars.length≤100000000) (h2:f.blocks.length≤100000000) (hp:f.params.length≤100000000) (hn:rL f) (hL:aE E):aF prog E 79 [.agg (b9 f)] (.bool (decide (ei f))):=by
 have hnv:(cL f).length=f.vars.length:=by unfold cL;simp
 have hnb:(da f).length=f.blocks.length:=by unfold da;simp
 refine zk func79 Z (by decide) Z<|ae<|zy (cs:=_) Z Z Z<|ad Z<|z6<|ae<|z7 (mS Z)<|z7 (mS Z)<|z6<|iP (t:=3) (k:=1) (T:=9) Z<|fun i3=>iP (t:=4) (k:=1) (T:=9) Z<|fun i4=>ze<|ae<|aj jt Z Y4 Z Z<|bd Yb Z<|au Zd Z<|aa Z<|z6<|zj<|ya (γ:=Nat × Nat) [1,4,12,13] (fun g=>[(3,.own g.2 g.1),(14,.int .i64 g.1)]) (fun g=>[(i4,.grow 1 9 []),(g.2,.grow 1 9 ((((cL f).take g.1).map pc).flatten))]) (fun g=>g.1≤f.vars.length∧∀i (h:i<f.vars.length),i<g.1→¬gZ f.vars[i].ty=⟨#[]⟩) (fun g=>f.vars.length - g.1) (0,i3) cU aJ (⟨qm _,fun i h h2=>absurd h2 (Nat.not_lt_zero _)⟩) ?_
 rintro ⟨k,i⟩ ⟨hk,hT⟩
 try dsimp only at *
 refine ae<|ax Z Z<|z6<|ze<|zp Z (fun ck=>?_) (fun ck=>?_)
 ·have hk2:k<f.vars.length:=by simp at ck;omega
  refine zi<|ze<|zj<|ae<|z7 (db k Zd sizeOf40 Z Z Z (qj hk2))<|ab isAgg40 sizeOf40 Z Z<|zo (cs:=[.str ⟨#[]⟩,.int .i64 0]) zeroValue40 Z Z<|fun i6=>zf sizeOf40 Z Z Z Z Z Z .head Z<|z6<|ae<|z7 (mR Z)<|z7 (y0 Y3 Z sizeOf9 (by decide) Z Z)<|z7 (yd (c:=.str _) isAgg9 Z ⟨_,.head⟩ Z)<|zr (rows:=[[_]]) CG Z Z Z Z Z<|yp (k:=1) Zt type9 Z Z Z Z Z (fun _=>.t2) (by rw[kS (k:=1) (fun _=>rfl),List.length_take];omega) (by decide) Z (by show (_+1)*16≤_;omega) (by show _+1≤_;omega)<|fun i22=>z7 (sB Z)<|z6<|ae<|z7 (y0 Y3 Z sizeOf38 (by decide) Z Z)<|z7 (yd (c:=.int _ _) isAgg38 Z ⟨_,.head⟩ Z)<|zg (tz _) Z<|z7 (Gv.eqlT Z Z)<|z6<|zp Z (fun ct=>?_) (fun ct=>?_)
  ·refine ae<|ad Z<|z6<|zh<|zm (x:=.bool _) Z ?_
   exact jb (decide_eq_false fun h=>h.1 k hk2 (by simpa using ct)).symm
  ·refine zi<|bD<|aQ Z Z<|aa Z<|z6 ?_
   exact ⟨(k+1,i22),mB,cU,⟨_,(.drop (.refl _)),by dsimp only;rw[←jN (enc:=pc) (Eh hk2)];rfl⟩,⟨hk2,fun i h h2=>by by_cases e:i=k;(subst e;simpa using ct);exact hT i h (by dsimp only at h2;omega)⟩,by dsimp only;omega⟩
 ·have hkn:k=f.vars.length:=by simp at ck;omega
  subst hkn
  rw[List.take_of_length_le (by omega:(cL f).length≤f.vars.length)]
  have hTys:Ek f:=fun i h=>hT i h h
  refine y8<|ze<|ae<|aj jt Z Zj Z Z<|bd Zn Z<|au jw Z<|aa Z<|z6<|zj<|ya (γ:=Nat × Nat) [1,3,29,30] (fun g=>[(4,.own g.2 g.1),(31,.int .i64 g.1)]) (fun g=>[(g.2,.grow 1 9 ((((da f).take g.1).map pc).flatten)),(i,.grow 1 9 (((cL f).map pc).flatten))]) (fun g=>g.1≤f.blocks.length) (fun g=>f.blocks.length - g.1) (0,i4) cU aJ (qm _) ?_
  rintro ⟨k,j⟩ hk
  try dsimp only at *
  refine ae<|ax Z Z<|z6<|ze<|zp Z (fun ck=>?_) (fun ck=>?_)
  ·have hk2:k<f.blocks.length:=by simp at ck;omega
   refine zi<|ze<|zj<|ae<|z7 (db k jw Z2 Z Z Z (qj hk2))<|ab Y6 Z2 Z Z<|zo (cs:=[.str ⟨#[]⟩,.raw (.slice none 0 0),.raw (.slice none 0 0),.int .i64 0,.int .i64 0,.int .i64 0,.int .i64 0]) Zf Z Z<|fun i8=>zf Z2 Z Z Z Z Z Z .head Z<|z6<|bD<|z7 (mR Z)<|z7 (y0 jy Z sizeOf9 (by decide) Z Z)<|z7 (yd (c:=.str _) isAgg9 Z ⟨_,.head⟩ Z)<|zr (rows:=[[_]]) CG Z Z Z Z Z<|yp (k:=1) Zt type9 Z Z Z Z Z (fun _=>.t1) (by rw[kS (k:=1) (fun _=>rfl),List.length_take];omega) (by decide) Z (by show (_+1)*16≤_;omega) (by show _+1≤_;omega)<|fun i39=>z7 (sB Z)<|z6<|bD<|aQ Z Z<|aa Z<|z6 ?_
   exact ⟨(k+1,i39),mB,cU,⟨_,(.drop (.refl _)),by dsimp only;rw[←jN (enc:=pc) (Ei hk2)];rfl⟩,hk2,by dsimp only;omega⟩
  ·have hkn:k=f.blocks.length:=by simp at ck;omega
   subst hkn
   rw[List.take_of_length_le (by omega:(da f).length≤f.blocks.length)]
   refine y8<|ze<|ae<|aj jt Z jr Z Z<|bd jv Z<|au jh Z<|aa Z<|z6<|zj<|ya (γ:=Nat) [1,3,4,42,43] (fun k=>[(44,.int .i64 k)]) (fun k=>[(j,.grow 1 9 (((da f).map pc).flatten)),(i,.grow 1 9 (((cL f).map pc).flatten))]) (fun k=>k≤f.params.length∧∀i (h:i<f.params.length),i<k→f.params[i]=(i:Int)) (fun k=>f.params.length - k) 0 aT aJ (⟨qm _,fun i h h2=>absurd h2 (Nat.not_lt_zero _)⟩) ?_
   rintro k ⟨hk,hP⟩
   refine ae<|ax Z Z<|z6<|ze<|zp Z (fun ck=>?_) (fun ck=>?_)
   ·have hk2:k<f.params.length:=by simp at ck;omega
    refine zi<|ze<|zj<|ae<|aa Z<|z7 (db k jh jm Z Z Z (qj hk2))<|aw jq Z<|aq Z<|aq Z<|z6<|ae<|aa Z<|aa Z<|z7 (yw Z Z)<|z6<|zz Z (fun cp=>?_) (fun cp=>?_)
    ·refine ae<|ad Z<|z6<|zh<|zm (x:=.bool _) Z ?_
     exact jb (decide_eq_false fun h=>by have:=h.2.1 k hk2;simp[this] at cp).symm
    ·refine zi<|bD<|aQ Z Z<|aa Z<|z6 ?_
     exact ⟨k+1,oV,aT,aJ,⟨hk2,fun i h h2=>by by_cases e:i=k;(subst e;simpa using cp);exact hP i h (by omega)⟩,by omega⟩
   ·have hkn:k=f.params.length:=by simp at ck;omega
    subst hkn
    have hPar:Ej f:=fun i h=>hP i h h
    refine yh (aN.know (t:=3) (rows:=(cL f).map pc) Z .t1 (by intro r hr;obtain ⟨x,_,rfl⟩:=List.mem_map.1 hr;rfl) (by decide) (by simp))<|yh (aN.know (t:=4) (rows:=(da f).map pc) Z .head (by intro r hr;obtain ⟨x,_,rfl⟩:=List.mem_map.1 hr;rfl) (by decide) (by simp))<|y8<|ae<|bh Z<|au Zt Z<|z7 (Gv.leq Z Z)<|ay Z<|zx (s:=56) Z (fun c3=>?_) (fun c3=>?_)
    ·refine za Z Z c3<|aj jt Z jr Z Z<|za Z Z c3<|bd jv Z<|za Z Z c3<|au jh Z<|za Z Z c3<|bh Z<|za Z Z c3<|au Zt Z<|za Z Z c3<|z7 (Gv.minI Z Z)<|za Z Z c3<|z7 (Gv.leq Z Z)<|aM Z c3 Z<|ay Z<|zx (s:=65) Z (fun c4=>?_) (fun c4=>?_)
     ·refine za Z Z c4<|bh Z<|za Z Z c4<|au Zt Z<|za Z Z c4<|z7 (qa Z Z)<|aM Z c4 Z<|ay Z<|zx (s:=70) Z (fun c5=>?_) (fun c5=>?_)
      ·refine za Z Z c5<|bh Z<|za Z Z c5<|au Zt Z<|za Z Z c5<|z7 (Gv.leq Z Z)<|aM Z c5 Z<|ay Z<|zx (s:=75) Z (fun c6=>?_) (fun c6=>?_)
       ·refine za Z Z c6<|bh Z<|za Z Z c6<|zg (mm (cL f) (by omega) (fun s hs=>by obtain ⟨v,hv,rfl⟩:=List.mem_map.1 hs;exact hn.1 v hv) hL) Z<|aM Z c6 Z<|ay Z<|zx (s:=79) Z (fun c7=>?_) (fun c7=>?_)
        ·refine za Z Z c7<|bh Z<|za Z Z c7<|zg (mm (da f) (by omega) (fun s hs=>by obtain ⟨v,hv,rfl⟩:=List.mem_map.1 hs;exact hn.2 v hv) hL) Z<|aM Z c7 Z<|ad Z<|z6<|zh<|zm (x:=.bool _) Z ?_
         exact jb (by unfold ei kc;simp_all<;>grind)
        ·refine z8 Z Z c7<|z8 Z Z c7<|aD Z c7 Z<|ad Z<|z6<|zh<|zm (x:=.bool _) Z ?_
         exact jb (by unfold ei kc;simp_all<;>grind)
       ·refine z8 Z Z c6<|z8 Z Z c6<|aD Z c6 Z<|ay Z<|z8 Z Z Z<|z8 Z Z Z<|aD Z Z Z<|ad Z<|z6<|zh<|zm (x:=.bool _) Z ?_
        exact jb (by unfold ei kc;simp_all<;>grind)
      ·refine z8 Z Z c5<|z8 Z Z c5<|z8 Z Z c5<|aD Z c5 Z<|ay Z<|z8 Z Z Z<|z8 Z Z Z<|aD Z Z Z<|ay Z<|z8 Z Z Z<|z8 Z Z Z<|aD Z Z Z<|ad Z<|z6<|zh<|zm (x:=.bool _) Z ?_
       exact jb (by unfold ei kc;simp_all<;>grind)
     ·refine z8 Z Z c4<|z8 Z Z c4<|z8 Z Z c4<|aD Z c4 Z<|ay Z<|z8 Z Z Z<|z8 Z Z Z<|z8 Z Z Z<|aD Z Z Z<|ay Z<|z8 Z Z Z<|z8 Z Z Z<|aD Z Z Z<|ay Z<|z8 Z Z Z<|z8 Z Z Z<|aD Z Z Z<|ad Z<|z6<|zh<|zm (x:=.bool _) Z ?_
      exact jb (by unfold ei kc;simp_all<;>grind)
    ·refine z8 Z Z c3<|z8 Z Z c3<|z8 Z Z c3<|z8 Z Z c3<|z8 Z Z c3<|z8 Z Z c3<|z8 Z Z c3<|aD Z c3 Z<|ay Z<|z8 Z Z Z<|z8 Z Z Z<|z8 Z Z Z<|aD Z Z Z<|ay Z<|z8 Z Z Z<|z8 Z Z Z<|z8 Z Z Z<|aD Z Z Z<|ay Z<|z8 Z Z Z<|z8 Z Z Z<|aD Z Z Z<|ay Z<|z8 Z Z Z<|z8 Z Z Z<|aD Z Z Z<|ad Z<|z6<|zh<|zm (x:=.bool _) Z ?_
     exact jb (by unfold ei kc;simp_all<;>grind)
def iz (f:ac) (p:dY):Bool:=!decide (p.args.length=0)&&decide (p.args.length=p.from_.length)&&cA f p.dst&&p.args.all (cA f)&&p.from_.all (iR f)
theorem zV (f:ac) (v:Int):aF prog E 109 ([.int .i64 v]++[.pf (b9 f)]) (.bool (!iR f v)):=by
 refine zk func109 Z (by decide) Z<|ae<|ad Z<|z6<|ae<|ab jx js Z Z<|aa Z<|zg (mP _ _) Z<|z7 (yo Z)<|ad Z<|z6<|zh<|zm (x:=.bool _) Z ?_
 rfl
theorem CK (f:ac) (p:dY) (hp:wV p):aF prog E 82 [.agg (b9 f),.agg (eY p)] (.bool (iz f p)):=by
 have hl1:=hp.1.lt
 have hl2:=hp.2.lt
 refine zk func82 Z (by decide) Z<|ae<|zy (cs:=_) Z Z Z<|zy (cs:=_) Z Z Z<|ad Z<|z6<|ze<|ae<|aj Za Z jr Z Z<|bd jv Z<|au jh Z<|ak Z Z<|ay Z<|zx (s:=9) Z (fun c8=>?_) (fun c8=>?_)
 ·refine z8 Z Z c8<|z8 Z Z c8<|z8 Z Z c8<|z8 Z Z c8<|z8 Z Z c8<|z8 Z Z c8<|z8 Z Z c8<|aM Z c8 Z<|ay Z<|z8 Z Z Z<|z8 Z Z Z<|z8 Z Z Z<|z8 Z Z Z<|z8 Z Z Z<|aM Z Z Z<|ay Z<|z8 Z Z Z<|z8 Z Z Z<|z8 Z Z Z<|z8 Z Z Z<|z8 Z Z Z<|aM Z Z Z<|z6<|yq Z Z<|ae<|ad Z<|z6<|zh<|zm (x:=.bool _) Z ?_
  exact jb (by have:=List.any_eq_not_all_not (l:=p.from_) (p:=fun x=>!iR f x);simp_all[iz,Int.ofNat_inj]<;>grind)
 ·refine za Z Z c8<|aj Za Z jr Z Z<|za Z Z c8<|bd jv Z<|za Z Z c8<|au jh Z<|za Z Z c8<|aj Za Z jr Z Z<|za Z Z c8<|bd jv Z<|za Z Z c8<|au jh Z<|za Z Z c8<|z7 (yw Z Z)<|aD Z c8 Z<|ay Z<|zx (s:=18) Z (fun c9=>?_) (fun c9=>?_)
  ·refine z8 Z Z c9<|z8 Z Z c9<|z8 Z Z c9<|z8 Z Z c9<|z8 Z Z c9<|aM Z c9 Z<|ay Z<|z8 Z Z Z<|z8 Z Z Z<|z8 Z Z Z<|z8 Z Z Z<|z8 Z Z Z<|aM Z Z Z<|z6<|yq Z Z<|ae<|ad Z<|z6<|zh<|zm (x:=.bool _) Z ?_
   exact jb (by have:=List.any_eq_not_all_not (l:=p.from_) (p:=fun x=>!iR f x);simp_all[iz,Int.ofNat_inj]<;>grind)
  ·refine za Z Z c9<|ab jx js Z Z<|za Z Z c9<|aj Za Z jm Z Z<|za Z Z c9<|aw jq Z<|za Z Z c9<|zg (iS _ _) Z<|za Z Z c9<|z7 (yo Z)<|aD Z c9 Z<|ay Z<|zx (s:=25) Z (fun c10=>?_) (fun c10=>?_)
   ·refine z8 Z Z c10<|z8 Z Z c10<|z8 Z Z c10<|z8 Z Z c10<|z8 Z Z c10<|aM Z c10 Z<|z6<|yq Z Z<|ae<|ad Z<|z6<|zh<|zm (x:=.bool _) Z ?_
    exact jb (by have:=List.any_eq_not_all_not (l:=p.from_) (p:=fun x=>!iR f x);simp_all[iz,Int.ofNat_inj]<;>grind)
   ·refine za Z Z c10<|ab jx js Z Z<|za Z Z c10<|aj Za Z jr Z Z<|za Z Z c10<|bd jv Z<|za Z Z c10<|zg (px f p.args (by omega)) Z<|za Z Z c10<|z7 (yo Z)<|aD Z c10 Z<|z6<|zz Z (fun c11=>?_) (fun c11=>?_)
    ·refine ae<|ad Z<|z6<|zh<|zm (x:=.bool _) Z ?_
     exact jb (by have:=List.any_eq_not_all_not (l:=p.from_) (p:=fun x=>!iR f x);simp_all[iz,Int.ofNat_inj]<;>grind)
    ·refine zi<|ae<|aj Za Z jr Z Z<|bd jv Z<|z7 (Gv.func Z Z)<|zg (fP p.from_ (by omega) (zV f)) Z<|z7 (yo Z)<|ad Z<|z6<|zh<|zm (x:=.bool _) Z ?_
     exact jb (by have:=List.any_eq_not_all_not (l:=p.from_) (p:=fun x=>!iR f x);simp_all[iz,Int.ofNat_inj]<;>grind)
end
section
open Go.Proofs.Tryz
open Go.Proofs Go.Lib Go.Shelf Go.RowKit
set_option maxRecDepth 20000
variable {E:World}
theorem iA {p:dY→Bool} {fn:FuncId} {c:List AV} (xs:List dY) (hl:xs.length≤281474976710656) (hp:∀x∈xs,aF prog E fn ([.agg (eY x)]++c) (.bool (p x))) :
  aF prog E 106 [.fro 3 (xs.map eY),.fn fn [] c] (.int .i64 (bF p xs 0)):=by
 refine zk func106 Z (by decide) Z<|ae<|aq Z<|z6<|ze<|ae<|bh Z<|au Zc Z<|aa Z<|z6<|zj<|ya (γ:=Nat) [0,1,7] (fun k=>[(8,.int .i64 k)]) (fun k=>[]) (fun k=>k≤xs.length∧(xs.take k).all (fun x=>!p x)) (fun k=>xs.length - k) 0 aT aJ (⟨qm _,Z⟩) ?_
 rintro k ⟨hk,hall⟩
 refine ae<|ax Z Z<|z6<|ze<|zp Z (fun ck=>?_) (fun ck=>?_)
 ·have hk2:k<xs.length:=by omega
  refine zi<|ze<|zj<|ae<|aa Z<|aq Z<|z6<|ae<|z7 (yb (v:=.fn _ _ _) Z)<|bh Z<|aa Z<|z7 (Gv.idxM Zc Zg Z Z Z (qj (by omega)))<|ab isAgg63 Zg Z Z<|ai.callVP Z (hp _ (qn hk2)) Z<|z6<|zz Z (fun cp=>?_) (fun cp=>?_)
  ·refine ae<|aa Z<|aq Z<|z6<|zh<|zm (x:=.int _ _) Z ?_
   rw[bv p xs k hk hall,List.drop_eq_getElem_cons hk2,bF,if_pos cp]
  ·refine zi<|bD<|aQ Z Z<|aa Z<|z6 ?_
   exact ⟨k+1,bX,aT,aJ,⟨hk2,by rw[qk hk2,List.all_append,hall];simp[cp]⟩,by omega⟩
 ·have hkn:k=xs.length:=by omega
  refine y8<|ae<|aq Z<|z6<|zh<|zm (x:=.int _ _) Z ?_
  rw[bv p xs k hk hall,hkn,List.drop_length,bF]
theorem kC {p:dY→Bool} {fn:FuncId} {c:List AV} (xs:List dY) (hl:xs.length≤281474976710656) (hp:∀x∈xs,aF prog E fn ([.agg (eY x)]++c) (.bool (p x))) :
  aF prog E 80 [.fro 3 (xs.map eY),.fn fn [] c] (.bool (xs.any p)):=by
 refine zk func80 Z (by decide) Z<|ae<|ad Z<|z6<|ae<|bh Z<|z7 (yb (v:=.fn _ _ _) Z)<|zg (iA xs hl hp) Z<|z7 (qa Z Z)<|ad Z<|z6<|zh<|zm (x:=.bool _) Z ?_
 rw[ej]
theorem mJ {p:bg→Bool} {fn:FuncId} {c:List AV} (xs:List bg) (hl:xs.length≤281474976710656) (hp:∀x∈xs,aF prog E fn ([.agg (d8 x)]++c) (.bool (p x))) :
  aF prog E 64 [.fro 4 (xs.map d8),.fn fn [] c] (.int .i64 (bF p xs 0)):=by
 refine zk func64 Z (by decide) Z<|ae<|aq Z<|z6<|ze<|ae<|bh Z<|au Z5 Z<|aa Z<|z6<|zj<|ya (γ:=Nat) [0,1,7] (fun k=>[(8,.int .i64 k)]) (fun k=>[]) (fun k=>k≤xs.length∧(xs.take k).all (fun x=>!p x)) (fun k=>xs.length - k) 0 aT aJ (⟨qm _,Z⟩) ?_
 rintro k ⟨hk,hall⟩
 refine ae<|ax Z Z<|z6<|ze<|zp Z (fun ck=>?_) (fun ck=>?_)
 ·have hk2:k<xs.length:=by omega
  refine zi<|ze<|zj<|ae<|aa Z<|aq Z<|z6<|ae<|z7 (yb (v:=.fn _ _ _) Z)<|bh Z<|aa Z<|z7 (Gv.idxM Z5 Z8 Z Z Z (qj (by omega)))<|ab Y8 Z8 Z Z<|ai.callVP Z (hp _ (qn hk2)) Z<|z6<|zz Z (fun cp=>?_) (fun cp=>?_)
  ·refine ae<|aa Z<|aq Z<|z6<|zh<|zm (x:=.int _ _) Z ?_
   rw[bv p xs k hk hall,List.drop_eq_getElem_cons hk2,bF,if_pos cp]
  ·refine zi<|bD<|aQ Z Z<|aa Z<|z6 ?_
   exact ⟨k+1,bX,aT,aJ,⟨hk2,by rw[qk hk2,List.all_append,hall];simp[cp]⟩,by omega⟩
 ·have hkn:k=xs.length:=by omega
  refine y8<|ae<|aq Z<|z6<|zh<|zm (x:=.int _ _) Z ?_
  rw[bv p xs k hk hall,hkn,List.drop_length,bF]
theorem kD {p:bg→Bool} {fn:FuncId} {c:List AV} (xs:List bg) (hl:xs.length≤281474976710656) (hp:∀x∈xs,aF prog E fn ([.agg (d8 x)]++c) (.bool (p x))) :
  aF prog E 34 [.fro 4 (xs.map d8),.fn fn [] c] (.bool (xs.any p)):=by
 refine zk func34 Z (by decide) Z<|ae<|ad Z<|z6<|ae<|bh Z<|z7 (yb (v:=.fn _ _ _) Z)<|zg (mJ xs hl hp) Z<|z7 (qa Z Z)<|ad Z<|z6<|zh<|zm (x:=.bool _) Z ?_
 rw[ej]
theorem rO (f:ac) (p:dY) (hp:wV p):aF prog E 81 ([.agg (eY p)]++[.pf (b9 f)]) (.bool (!iz f p)):=by
 refine zk func81 Z (by decide) Z<|ae<|zy (cs:=_) Z Z Z<|ad Z<|z6<|ae<|ab jx js Z Z<|ab isAgg63 Zg Z Z<|zg (CK _ _ (by assumption)) Z<|z7 (yo Z)<|ad Z<|z6<|zh<|zm (x:=.bool _) Z ?_
 rfl
theorem rP (f:ac) (x:bg) (hx:ow x.args):aF prog E 83 ([.agg (d8 x)]++[.pf (b9 f)]) (.bool (!bC f x)):=by
 refine zk func83 Z (by decide) Z<|ae<|zy (cs:=_) Z Z Z<|ad Z<|z6<|ae<|ab jx js Z Z<|ab Y8 Z8 Z Z<|zg (zR _ _ (by assumption)) Z<|z7 (yo Z)<|ad Z<|z6<|zh<|zm (x:=.bool _) Z ?_
 rfl
def eO (f:ac) (b:aW):Bool:=!(b.phis.any fun p=>!iz f p)&&!(b.insts.any fun x=>!bC f x)&&cK f b.term
theorem oF {f:ac} {b:aW} (h:(b.phis.any fun p=>!iz f p)=true):eO f b=false:=by unfold eO;rw[h];rfl
theorem oG {f:ac} {b:aW} (h:(b.insts.any fun x=>!bC f x)=true):eO f b=false:=by unfold eO;rw[h];simp
theorem oH {f:ac} {b:aW} (h:(!cK f b.term)=true):eO f b=false:=by unfold eO;rw[show cK f b.term=false by simpa using h];simp
theorem CL {f:ac} {b:aW} (h1:(b.phis.any fun p=>!iz f p)=false) (h2:(b.insts.any fun x=>!bC f x)=false) (h3:(!cK f b.term)=false):eO f b=true:=by unfold eO;rw[h1,h2,show cK f b.term=true by simpa using h3];rfl
def dw (f:ac):Bool:=decide (ei f)&&(f.blocks.all (eO f)&&decide (oB f.blocks≤1024))
theorem tC (f:ac) (hf:Cn f) (h1:f.vars.length≤100000000) (h2:f.blocks.length≤100000000) (hp:f.params.length≤100000000) (hn:rL f) (hL:aE E):aF prog E 58 [.agg (b9 f)] (.bool (dw f)):=by
 refine zk func58 Z (by decide) Z<|ae<|zy (cs:=_) Z Z Z<|ad Z<|z6<|ze<|ae<|ab jx js Z Z<|zg (tB _ (by omega) (by omega) (by omega) (by assumption) hL) Z<|z7 (yo Z)<|z6<|zz Z (fun cn=>?_) (fun cn=>?_)
 ·refine ae<|ad Z<|z6<|zh<|zm (x:=.bool _) Z ?_
  exact jb (by unfold dw;rw[show decide (ei f)=false by simpa using cn];rfl)
 ·have hN:ei f:=by simpa using cn
  have hbl:=hN.2.2.1.2.2.2.2
  refine zi<|ae<|aq Z<|z6<|ze<|ae<|aj jt Z Zj Z Z<|bd Zn Z<|au jw Z<|aa Z<|z6<|zj<|ya (γ:=Nat) [1,11,12] (fun k=>[(3,.int .i64 (oB (f.blocks.take k))),(13,.int .i64 k)]) (fun k=>[]) (fun k=>k≤f.blocks.length∧oB (f.blocks.take k)≤k*562949953421312∧(f.blocks.take k).all (eO f)=true) (fun k=>f.blocks.length - k) 0 cU aJ (⟨qm _,qm _,Z⟩) ?_
  rintro k ⟨hk,hsum,hall⟩
  refine ae<|ax Z Z<|z6<|ze<|zp Z (fun ck=>?_) (fun ck=>?_)
  ·have hk2:k<f.blocks.length:=by simp at ck;omega
   obtain ⟨b,hbk⟩:∃b,f.blocks[k]=b:=⟨_,rfl⟩
   have hget:f.blocks[k]?=some b:=by rw[qj hk2,hbk]
   have hb:=hf.2.2.2 b (hbk▸qn hk2)
   have hb1:=hb.1.lt
   have hb2:=hb.2.1.lt
   have hsucc:=vm f.blocks k hk2
   rw[hbk] at hsucc
   refine zi<|ze<|zj<|ae<|z7 (db k jw Z2 Z Z Z hget)<|ab Y6 Z2 Z Z<|zo (cs:=[.str ⟨#[]⟩,.raw (.slice none 0 0),.raw (.slice none 0 0),.int .i64 0,.int .i64 0,.int .i64 0,.int .i64 0]) Zf Z Z<|fun i5=>zf Z2 Z Z Z Z Z Z .head Z<|z6<|ae<|aa Z<|z7 (y0 jy Z Yc (by decide) Z Z)<|z7 (yd (c:=.fro _ _) isAgg49 Z ⟨_,.head⟩ Z)<|au Zc Z<|z7 (y0 jy Z Y2 (by decide) Z Z)<|z7 (yd (c:=.fro _ _) Y9 Z ⟨_,.head⟩ Z)<|au Z5 Z<|aQ Z Z<|aQ Z Z<|aq Z<|z6<|ae<|z7 (y0 jy Z Yc (by decide) Z Z)<|z7 (yd (c:=.fro _ _) isAgg49 Z ⟨_,.head⟩ Z)<|z7 (Gv.func Z Z)<|zg (kC b.phis (by omega) (fun p hp=>rO f p (hb.2.2.1 p hp))) Z<|ay Z<|zx (s:=30) Z (fun c1=>?_) (fun c1=>?_)
   ·refine z8 Z Z c1<|z8 Z Z c1<|z8 Z Z c1<|z8 Z Z c1<|aM Z c1 Z<|ad Z<|z6<|ae<|ay Z<|ay Z<|z8 Z Z Z<|z8 Z Z Z<|z8 Z Z Z<|z8 Z Z Z<|z8 Z Z Z<|aM Z Z Z<|z6<|yq Z Z<|ae<|ad Z<|z6<|zh<|zm (x:=.bool _) Z ?_
    exact jb (by unfold dw;rw[show f.blocks.all (eO f)=false from Bool.eq_false_iff.2 (fj hk2 (by rw[hbk];first|exact oF (by assumption)|exact oG (by assumption)|exact oH (by assumption)))];simp)
   ·refine za Z Z c1<|z7 (y0 jy Z Y2 (by decide) Z Z)<|za Z Z c1<|z7 (yd (c:=.fro _ _) Y9 Z ⟨_,.head⟩ Z)<|za Z Z c1<|z7 (Gv.func Z Z)<|za Z Z c1<|zg (kD b.insts (by omega) (fun x hx=>rP f x (hb.2.2.2 x hx))) Z<|aD Z c1 Z<|ad Z<|z6<|ae<|ay Z<|ay Z<|zx (s:=37) Z (fun c2=>?_) (fun c2=>?_)
    ·refine z8 Z Z c2<|z8 Z Z c2<|z8 Z Z c2<|z8 Z Z c2<|z8 Z Z c2<|aM Z c2 Z<|z6<|yq Z Z<|ae<|ad Z<|z6<|zh<|zm (x:=.bool _) Z ?_
     exact jb (by unfold dw;rw[show f.blocks.all (eO f)=false from Bool.eq_false_iff.2 (fj hk2 (by rw[hbk];first|exact oF (by assumption)|exact oG (by assumption)|exact oH (by assumption)))];simp)
    ·refine za Z Z c2<|ab jx js Z Z<|za Z Z c2<|z7 (y0 jy Z Y7 (by decide) Z Z)<|za Z Z c2<|z7 (yf (l:=[_,_,_,_]) isAgg48 Y7 Z ⟨_,.head⟩ Z Z)<|za Z Z c2<|zg (zS _ _) Z<|za Z Z c2<|z7 (yo Z)<|aD Z c2 Z<|z6<|zz Z (fun c3=>?_) (fun c3=>?_)
     ·refine ae<|ad Z<|z6<|zh<|zm (x:=.bool _) Z ?_
      exact jb (by unfold dw;rw[show f.blocks.all (eO f)=false from Bool.eq_false_iff.2 (fj hk2 (by rw[hbk];first|exact oF (by assumption)|exact oG (by assumption)|exact oH (by assumption)))];simp)
     ·refine zi<|bD<|aQ Z Z<|aa Z<|z6 ?_
      exact ⟨k+1,bX,⟨congrArg (AV.int .i64) (by rw[hsucc];omega),rfl,trivial⟩,⟨_,(.drop (.refl _)),rfl⟩,⟨hk2,by rw[hsucc];omega,fv hk2 hall (by rw[hbk];exact CL (by assumption) (by assumption) (by assumption))⟩,by omega⟩
  ·have hkn:k=f.blocks.length:=by simp at ck;omega
   subst hkn
   rw[qo] at hall ⊢
   refine y8<|ae<|aa Z<|z7 (Gv.leq Z Z)<|ad Z<|z6<|zh<|zm (x:=.bool _) Z ?_
   exact jb (by unfold dw;rw[decide_eq_true hN,hall];simp;omega)
theorem p7 (f:ac) (p:dY):iz f p=true↔CA f p:=by
 unfold iz CA
 simp only[qu,Bool.not_eq_true',decide_eq_false_iff_not,qv]
 constructor
 ·rintro ⟨⟨⟨⟨h1,h2⟩,h3⟩,h4⟩,h5⟩;exact ⟨h3,h2,by omega,h4,h5⟩
 ·rintro ⟨h3,h2,h1,h4,h5⟩;exact ⟨⟨⟨⟨by omega,h2⟩,h3⟩,h4⟩,h5⟩
theorem p8 (t:Int):¬gZ t=⟨#[]⟩↔0≤t∧t≤2:=by
 unfold gZ
 constructor
 ·intro h
  by_cases h0:t=0
  ·omega
  ·by_cases h1:t=1
   ·omega
   ·by_cases h2:t=2
    ·omega
    ·rw[if_neg h0,if_neg h1,if_neg h2] at h;exact absurd rfl h
 ·intro h e
  have:t=0∨t=1∨t=2:=by omega
  rcases this with rfl|rfl|rfl<;>exact absurd e (by decide)
theorem zW (f:ac) (b:aW):eO f b=true↔CC f b:=by
 unfold eO CC
 simp only[qu,Bool.not_eq_true',List.any_eq_false,Bool.not_eq_false]
 constructor
 ·rintro ⟨⟨h1,h2⟩,h3⟩
  exact ⟨fun p hp=>(p7 f p).1 (by simpa using h1 p hp),fun x hx=>(oC f x).1 (by simpa using h2 x hx),h3⟩
 ·rintro ⟨h1,h2,h3⟩
  exact ⟨⟨fun p hp=>by simpa using (p7 f p).2 (h1 p hp),fun x hx=>by simpa using (oC f x).2 (h2 x hx)⟩,h3⟩
theorem CM {l:List ByteArray}:vt l↔∀i (h:i<l.length),dJ l[i]=true∧l[i] ∉ l.take i:=by
 unfold vt
 constructor<;>intro h i hi
 ·exact ⟨(h i hi).1,fun hm=>by have:=xa.2 hm;rw[(h i hi).2] at this;cases this⟩
 ·exact ⟨(h i hi).1,Bool.eq_false_iff.2 fun hm=>(h i hi).2 (xa.1 hm)⟩
theorem xc {f:ac} {i:Nat} (h:i<(cL f).length) (h':i<f.vars.length):(cL f)[i]=f.vars[i].name:=by
 have:(cL f)[i]?=some f.vars[i].name:=by unfold cL;rw[qr,qj h'];rfl
 rw[qj h] at this
 simpa using this
theorem xd {f:ac} {i:Nat} (h:i<(da f).length) (h':i<f.blocks.length):(da f)[i]=f.blocks[i].name:=by
 have:(da f)[i]?=some f.blocks[i].name:=by unfold da;rw[qr,qj h'];rfl
 rw[qj h] at this
 simpa using this
theorem kE (f:ac):dw f=decide (cf f):=by
 rw[Bool.eq_iff_iff,decide_eq_true_iff]
 unfold dw
 simp only[qu,decide_eq_true_iff,List.all_eq_true,zW]
 unfold ei kc cf Gb
 simp only[CM]
 constructor
 ·rintro ⟨⟨h1,h2,⟨g1,g2,g3,g4,g5⟩,h4,h5⟩,h6,h7⟩
  refine ⟨?_,h2,fun i h=>?_,fun i h=>?_,h7,h6⟩
  ·simp;omega
  ·have ht:=(p8 _).1 (h1 i h)
   have hu:=h4 i (by unfold cL;simpa using h)
   have e:=xc (f:=f) (i:=i) (by unfold cL;simpa using h) h
   rw[e] at hu
   exact ⟨by rw[m8];exact hu.1,ht.1,ht.2,fun s hs e2=>hu.2 (by unfold cL;rw[←List.map_take,←e2];exact hs)⟩
  ·have hu:=h5 i (by unfold da;simpa using h)
   have e:=xd (f:=f) (i:=i) (by unfold da;simpa using h) h
   rw[e] at hu
   exact ⟨by rw[m8];exact hu.1,fun s hs e2=>hu.2 (by unfold da;rw[←List.map_take,←e2];exact hs)⟩
 ·rintro ⟨h1,h2,h3,h4,h7,h6⟩
  simp at h1
  refine ⟨⟨fun i h=>(p8 _).2 ⟨(h3 i h).2.1,(h3 i h).2.2.1⟩,h2,by omega,fun i h=>?_,fun i h=>?_⟩,h6,h7⟩
  ·have h':i<f.vars.length:=by simpa using h
   have e:=xc h h'
   rw[e]
   exact ⟨by rw[←m8];exact (h3 i h').1,fun hm=>(h3 i h').2.2.2 _ (by unfold cL at hm;rw[←List.map_take] at hm;exact hm) rfl⟩
  ·have h':i<f.blocks.length:=by simpa using h
   have e:=xd h h'
   rw[e]
   exact ⟨by rw[←m8];exact (h4 i h').1,fun hm=>(h4 i h').2 _ (by unfold da at hm;rw[←List.map_take] at hm;exact hm) rfl⟩
end
section
open Go.Proofs.Tryz
open Go.Proofs Go.Lib Go.Shelf Go.RowKit
variable {E:World}
set_option maxRecDepth 20000
theorem cf.ends {f:ac} (h:cf f):ef f:=by
 obtain ⟨h1,_,_,_,_,h6⟩:=h
 unfold Gb at h1
 simp only[Bool.or_eq_false_iff,decide_eq_false_iff_not] at h1
 refine ⟨by omega,fun b hb c hc=>?_⟩
 have ht:=(h6 b hb).2.2
 unfold cK at ht
 unfold co at hc
 split at hc
 ·rename_i hk
  rw[if_pos hk] at ht
  simp only[qu,iR,qv] at ht
  simp at hc;subst hc;exact ht.1.1
 ·rename_i hk
  rw[if_neg hk] at ht
  split at hc
  ·rename_i hk1
   rw[if_pos hk1] at ht
   simp only[qu,iR,qv] at ht
   split at hc
   ·simp at hc;subst hc;exact ht.1.2
   ·simp at hc;rcases hc with rfl|rfl
    ·exact ht.1.2
    ·exact ht.2
  ·cases hc
def rQ (f:ac) (b:aW):Bool:=b.phis.all (F2 f)&&b.insts.all (mf f)&&ox f b.term
def bf (f:ac):Bool:=dw f&&f.blocks.all (rQ f)
theorem small.shaped {f:ac} (hf:small f) (hL:aE E):aF prog E 58 [.agg (b9 f)] (.bool (dw f)):=
 tC f hf.ok (by have:=hf.1;omega) (by have:=hf.2.2.1;omega) (by have:=hf.2.1;omega) hf.names hL
theorem tD {f:ac} {t:fB} (h:cK f t=true) (hk:¬t.kind=0):cA f t.var=true:=by
 unfold cK at h
 rw[if_neg hk] at h
 split at h
 ·simp only[qu] at h;exact h.1.1
 ·split at h
  ·simp only[qu] at h;exact h.1
  ·cases h
theorem kF (f:ac) (hf:small f) (hL:aE E):aF prog E 30 [.agg (b9 f)] (.int .i64 (if bf f then 0 else 3)):=by
 have hok:=hf.ok
 refine zk func30 Z (by decide) Z<|ae<|zy (cs:=_) Z Z Z<|aq Z<|z6<|ze<|ae<|ab jx js Z Z<|zg (hf.shaped hL) Z<|z7 (yo Z)<|z6<|zz Z (fun cs=>?_) (fun cs=>?_)
 ·refine ae<|aq Z<|z6<|zh<|zm (x:=.int _ _) Z ?_
  unfold bf;rw[show dw f=false by simpa using cs];rfl
 ·have hsb:dw f=true:=by simpa using cs
  have hS:cf f:=by rw[kE] at hsb;exact of_decide_eq_true hsb
  have hB:=hS.2.2.2.2.2
  have hfl:=hok.2.2.1.lt
  refine zi<|ze<|ae<|aj jt Z Zj Z Z<|bd Zn Z<|au jw Z<|aa Z<|z6<|zj<|ya (γ:=Nat) [1,13,14] (fun k=>[(15,.int .i64 k)]) (fun k=>[]) (fun k=>k≤f.blocks.length∧(f.blocks.take k).all (rQ f)=true) (fun k=>f.blocks.length - k) 0 aT aJ (⟨qm _,Z⟩) ?_
  rintro k ⟨hk,hall⟩
  refine ae<|ax Z Z<|z6<|ze<|zp Z (fun ck=>?_) (fun ck=>?_)
  ·have hk2:k<f.blocks.length:=by simp at ck;omega
   obtain ⟨b,hbk⟩:∃b,f.blocks[k]=b:=⟨_,rfl⟩
   have hget:f.blocks[k]?=some b:=by rw[qj hk2,hbk]
   have hmem:b∈f.blocks:=hbk▸qn hk2
   obtain ⟨hph,hin,htm⟩:=hB b hmem
   have hbad:rQ f b=false→bf f=false:=fun h=>by unfold bf;rw[Bool.eq_false_iff.2 (fj hk2 (by rw[hbk];exact h))];simp
   have hs5:=hok.2.2.2 b hmem
   have hpl:=hs5.1.lt
   have hil:=hs5.2.1.lt
   refine zi<|ze<|zj<|ae<|z7 (db k jw Z2 Z Z Z hget)<|ab Y6 Z2 Z Z<|zo (cs:=[.str ⟨#[]⟩,.raw (.slice none 0 0),.raw (.slice none 0 0),.int .i64 0,.int .i64 0,.int .i64 0,.int .i64 0]) Zf Z Z<|fun i4=>zf Z2 Z Z Z Z Z Z .head Z<|zc (yk (t:=4) Z .head)<|z6<|ze<|ae<|aj jy Z Yc Z Z<|bd isAgg49 Z<|au Zc Z<|aa Z<|z6<|zj<|ya (γ:=Nat) [1,4,13,14,15,20,21] (fun p=>[(22,.int .i64 p)]) (fun p=>[]) (fun p=>p≤b.phis.length∧(b.phis.take p).all (F2 f)=true) (fun p=>b.phis.length - p) 0 aT aJ (⟨qm _,Z⟩) ?_
   rintro p ⟨hp,hpall⟩
   refine ae<|ax Z Z<|z6<|ze<|zp Z (fun cp=>?_) (fun cp=>?_)
   ·have hp2:p<b.phis.length:=by simp at cp;omega
    have hpm:=qn hp2
    have hP:=hph _ hpm
    refine zi<|ze<|zj<|ae<|z7 (db p Zc Zg Z Z Z (qj hp2))<|ab isAgg63 Zg Z Z<|zo (cs:=[.int .i64 0,.raw (.slice none 0 0),.raw (.slice none 0 0)]) zeroValue63 Z Z<|fun i6=>zf Zg Z Z Z Z Z Z .head Z<|zc (yk (t:=6) Z .head)<|z6<|ae<|ab jx js Z Z<|ab isAgg63 Zg Z Z<|zg (zN f b.phis[p] (hs5.2.2.1 _ hpm) hP.2.2.2.1 hP.1) Z<|z7 (yo Z)<|z6<|zz Z (fun cq=>?_) (fun cq=>?_)
    ·refine ae<|aq Z<|z6<|zh<|zm (x:=.int _ _) Z ?_
     rw[hbad (by unfold rQ;rw[Bool.eq_false_iff.2 (fj hp2 (by simpa using cq))];rfl)];rfl
    ·refine zi<|bD<|aQ Z Z<|aa Z<|z6 ?_
     exact ⟨p+1,Aw,aT,aJ,⟨hp2,fv hp2 hpall (by simpa using cq)⟩,by omega⟩
   ·have hpn:p=b.phis.length:=by simp at cp;omega
    subst hpn
    rw[qo] at hpall
    refine y8<|ze<|ae<|aj jy Z Y2 Z Z<|bd Y9 Z<|au Z5 Z<|aa Z<|z6<|zj<|ya (γ:=Nat) [1,4,13,14,15,32,33] (fun q=>[(34,.int .i64 q)]) (fun q=>[]) (fun q=>q≤b.insts.length∧(b.insts.take q).all (mf f)=true) (fun q=>b.insts.length - q) 0 aT aJ (⟨qm _,Z⟩) ?_
    rintro q ⟨hq,hqall⟩
    refine ae<|ax Z Z<|z6<|ze<|zp Z (fun cp2=>?_) (fun cp2=>?_)
    ·have hq2:q<b.insts.length:=by simp at cp2;omega
     have hqm:=qn hq2
     have hI:=gl (hin _ hqm)
     have hId:eX b.insts[q].op=true→cA f b.insts[q].dst=true:=fun h=>by
      rcases hI.dst with ⟨d1,_⟩|⟨_,_,d3⟩
      ·rw[h] at d1;cases d1
      ·exact d3
     refine zi<|ze<|zj<|ae<|z7 (db q Z5 Z8 Z Z Z (qj hq2))<|ab Y8 Z8 Z Z<|zo (cs:=[.int .i64 0,.int .i64 0,.raw (.slice none 0 0),.int .i64 0]) Zx Z Z<|fun i8=>zf Z8 Z Z Z Z Z Z .head Z<|zc (yk (t:=8) Z .head)<|z6<|ae<|ab jx js Z Z<|ab Y8 Z8 Z Z<|zg (vh f b.insts[q] (List.all_eq_true.2 hI.args) hI.len hId) Z<|z7 (yo Z)<|z6<|zz Z (fun cq=>?_) (fun cq=>?_)
     ·refine ae<|aq Z<|z6<|zh<|zm (x:=.int _ _) Z ?_
      rw[hbad (by unfold rQ;rw[hpall,Bool.eq_false_iff.2 (fj hq2 (by simpa using cq))];rfl)];rfl
     ·refine zi<|bD<|aQ Z Z<|aa Z<|z6 ?_
      exact ⟨q+1,Aw,aT,aJ,⟨hq2,fv hq2 hqall (by simpa using cq)⟩,by omega⟩
    ·have hqn:q=b.insts.length:=by simp at cp2;omega
     subst hqn
     rw[qo] at hqall
     refine y8<|ae<|ab jx js Z Z<|aj jy Z Y7 Z Z<|ab isAgg48 Y7 Z Z<|zg (vj f b.term (tD htm)) Z<|z7 (yo Z)<|z6<|zz Z (fun ct=>?_) (fun ct=>?_)
     ·refine ae<|aq Z<|z6<|zh<|zm (x:=.int _ _) Z ?_
      rw[hbad (by unfold rQ;rw[hpall,hqall];simpa using ct)];rfl
     ·refine zi<|bD<|aQ Z Z<|aa Z<|z6 ?_
      exact ⟨k+1,bX,aT,aJ,⟨hk2,fv hk2 hall (by rw[hbk];unfold rQ;rw[hpall,hqall];simpa using ct)⟩,by omega⟩
  ·have hkn:k=f.blocks.length:=by simp at ck;omega
   subst hkn
   rw[qo] at hall
   refine y8<|ae<|aq Z<|z6<|zh<|zm (x:=.int _ _) Z ?_
   unfold bf;rw[hsb,hall];rfl
end
section
open Go.Proofs.Tryz
open Go.Proofs Go.Lib Go.Shelf Go.RowKit
variable {E:World}
set_option maxRecDepth 20000
theorem g9 (f:ac) (hf:small f) (hL:aE E):aF prog E 41 [.agg (b9 f)] (.bool (bf f)):=by
 refine zk func41 Z (by decide) Z<|ae<|zy (cs:=_) Z Z Z<|ad Z<|z6<|ae<|ab jx js Z Z<|zg (kF f hf hL) Z<|ak Z Z<|ad Z<|z6<|zh<|zm (x:=.bool _) Z ?_
 cases bf f<;>rfl
theorem dK {f:ac} (h:bf f=true):ef f:=by
 unfold bf at h
 rw[qu,kE] at h
 exact (of_decide_eq_true h.1).ends
theorem tE (f:ac) (hf:small f) (hL:aE E) (ht:bf f=true):aF prog E 18 [.agg (b9 f)] (mF eI (bU f f.blocks.length)):=by
 have hn:=hf.2.2.1
 refine zk func18 Z (by decide) Z<|ae<|zy (cs:=_) Z Z Z<|z7 (mS Z)<|z6<|ze<|ae<|ab jx js Z Z<|zg (g9 f hf hL) Z<|z7 (yo Z)<|z6<|yn Z (by rw[ht];rfl)<|zi<|ae<|ab jx js Z Z<|zg (oz f (dK ht) (by omega)) Z<|z7 (um Z)<|z6<|zh<|zm (x:=.fro _ _) Z ?_
 rfl
theorem mn (f:ac) (hE:ef f) (hn:f.blocks.length≤1000):aF prog E 65 [.agg (b9 f)] (.fro 1 ((ap (ah f) f.blocks.length).map eE)):=
 vk f hE (by omega) fun l i T h=>tq l i T h
theorem tF (f:ac) (hf:small f) (hL:aE E) (ht:bf f=true):aF prog E 36 [.agg (b9 f)] (.fro 1 ((ap (ah f) f.blocks.length).map eE)):=by
 have hn:=hf.2.2.1
 refine zk func36 Z (by decide) Z<|ae<|zy (cs:=_) Z Z Z<|z7 (mS Z)<|z6<|ze<|ae<|ab jx js Z Z<|zg (g9 f hf hL) Z<|z7 (yo Z)<|z6<|yn Z (by rw[ht];rfl)<|zi<|ae<|ab jx js Z Z<|zg (mn f (dK ht) (by omega)) Z<|z7 (um Z)<|z6<|zh<|zm (x:=.fro _ _) Z ?_
 rfl
def CN (x:Bool):List AV:=[.bool x]
theorem vu (f:ac) (hE:ef f) (hn:f.blocks.length≤1000):aF prog E 76 [.agg (b9 f)] (.fro 1 ((km (ah f) f.blocks.length).map CN)):=by
 have hG:=hE.grph
 have hol:=eV hG
 refine zk func76 Z (by decide) Z<|ae<|zy (cs:=_) Z Z Z<|z7 (mS Z)<|z6<|ae<|aj jt Z Zj Z Z<|bd Zn Z<|au jw Z<|ai.makeB (m:=f.blocks.length) Zk type4 Z Z Z Z Z (by simp) (by simp) (by show (1:Int)*_≤_;omega) (by omega)<|fun i9=>z7 (sB Z)<|z6<|ze<|ae<|ab jx js Z Z<|zg (mn f hE hn) Z<|au jh Z<|aa Z<|z6<|zj<|ya (γ:=Nat) [3,11,12] (fun k=>[(13,.int .i64 k)]) (fun k=>[(i9,.grow 1 4 (cB (nC (List.replicate f.blocks.length false) ((ap (ah f) f.blocks.length).take k))))]) (fun k=>k≤(ap (ah f) f.blocks.length).length) (fun k=>(ap (ah f) f.blocks.length).length - k) 0 aT aJ (qm _) ?_
 rintro k hk
 refine ae<|ax Z Z<|z6<|ze<|zp Z (fun ck=>?_) (fun ck=>?_)
 ·have hk2:k<(ap (ah f) f.blocks.length).length:=by simp at ck;omega
  obtain ⟨b,hb⟩:∃b,(ap (ah f) f.blocks.length)[k]=b:=⟨_,rfl⟩
  have hr:=dm hG.toEOk (hb▸qn hk2)
  refine zi<|ze<|zj<|ae<|z7 (db k jh jm Z Z Z (by rw[qj hk2,hb])) ?_
  refine aw jq Z<|aq Z<|z6<|bD<|z7 (mR Z)<|aa Z<|z7 (yy (j:=b.toNat) Zk Zr Z Z (by omega) ⟨_,.head⟩ (by rw[aX,gB];simp) (by omega))<|ai.storeB (j:=b.toNat) Zr Z Z .head (by rw[gB];simp;omega)<|z6<|bD<|aQ Z Z<|aa Z<|z6 ?_
  exact ⟨k+1,bX,aT,⟨_,(.refl _),by rw[qk hk2,uD,hb]⟩,hk2,by omega⟩
 ·have hkn:k=(ap (ah f) f.blocks.length).length:=by simp at ck;omega
  subst hkn
  rw[qo]
  refine y8<|ae<|z7 (mR Z)<|z7 (sB Z)<|z6<|yh (aN.knowB (t:=2) Z .head (by rw[gB];simp))<|zh<|zm (x:=.fro _ _) Z ?_
  rfl
theorem tG (f:ac) (hf:small f) (hL:aE E) (ht:bf f=true):aF prog E 54 [.agg (b9 f)] (.fro 1 ((km (ah f) f.blocks.length).map CN)):=by
 have hn:=hf.2.2.1
 refine zk func54 Z (by decide) Z<|ae<|zy (cs:=_) Z Z Z<|z7 (mS Z)<|z6<|ze<|ae<|ab jx js Z Z<|zg (g9 f hf hL) Z<|z7 (yo Z)<|z6<|yn Z (by rw[ht];rfl)<|zi<|ae<|ab jx js Z Z<|zg (vu f (dK ht) (by omega)) Z<|z7 (um Z)<|z6<|zh<|zm (x:=.fro _ _) Z ?_
 rfl
theorem tH (xs:List Bool) (v:Bool) (hl:xs.length≤281474976710656):aF prog E 75 [.fro 1 (xs.map CN),.bool v] (.int .i64 (bF (fun x=>decide (v=x)) xs 0)):=by
 refine zk func75 Z (by decide) Z<|ae<|aq Z<|z6<|ze<|ae<|bh Z<|au Zk Z<|aa Z<|z6<|zj<|ya (γ:=Nat) [0,1,7] (fun k=>[(8,.int .i64 k)]) (fun k=>[]) (fun k=>k≤xs.length∧(xs.take k).all (fun x=>!decide (v=x))) (fun k=>xs.length - k) 0 aT aJ (⟨qm _,Z⟩) ?_
 rintro k ⟨hk,hall⟩
 refine ae<|ax Z Z<|z6<|ze<|zp Z (fun ck=>?_) (fun ck=>?_)
 ·have hk2:k<xs.length:=by simp at ck;omega
  refine zi<|ze<|zj<|ae<|aa Z<|aq Z<|z6<|ae<|ay Z<|bh Z<|aa Z<|z7 (db k Zk Zr Z Z Z (qj hk2))<|z7 (q7 (c:=.bool _) isAgg4 Z)<|z7 (Gv.eqlB Zo Z Z)<|z6<|zz Z (fun cp=>?_) (fun cp=>?_)
  ·refine ae<|aa Z<|aq Z<|z6<|zh<|zm (x:=.int _ _) Z ?_
   rw[bv _ xs k hk hall,List.drop_eq_getElem_cons hk2,bF,if_pos (by simpa using cp)]
  ·refine zi<|bD<|aQ Z Z<|aa Z<|z6 ?_
   exact ⟨k+1,bX,aT,aJ,⟨hk2,by rw[qk hk2,List.all_append,hall];simpa using cp⟩,by omega⟩
 ·have hkn:k=xs.length:=by simp at ck;omega
  refine y8<|ae<|aq Z<|z6<|zh<|zm (x:=.int _ _) Z ?_
  rw[bv _ xs k hk hall,hkn,List.drop_length,bF]
theorem oI (xs:List Bool) (v:Bool) (hl:xs.length≤281474976710656):aF prog E 53 [.fro 1 (xs.map CN),.bool v] (.bool (xs.contains v)):=by
 refine zk func53 Z (by decide) Z<|ae<|ad Z<|z6<|ae<|bh Z<|ay Z<|zg (tH xs v hl) Z<|z7 (qa Z Z)<|ad Z<|z6<|zh<|zm (x:=.bool _) Z ?_
 rw[ej];congr 1;rw[Bool.eq_iff_iff];simp
theorem Gf (xs:List Int) (hl:xs.length≤1000):aU prog E 44 [.fro 1 (xs.map eE)] [] (fun x O'=>∃i:Nat,x=.own i xs.length∧O'=[(i,.grow 1 3 (cI xs))]):=by
 refine zk func44 Z (by decide) Z<|ae<|z7 (mS Z)<|z6<|ze<|ae<|bh Z<|ai.isNil jh Z Z (fun hnil=>?_) ?_
 ·have hx:xs=[]:=by simpa using hnil
  subst hx
  refine z6<|yq Z Z<|ae<|z7 (mS Z)<|z6<|zh ?_
  repeat (first|refine bc ?_|refine aO ?_)
  refine xZ (s:=2) (k:=1) (T:=3) Z (fun i=>?_)
  refine zm (x:=.own _ _) Z ?_
  exact ⟨i,rfl,rfl⟩
 ·refine z6<|yn Z Z<|zi<|ae<|ai.buildSlice0 (k:=1) jh type3<|fun i5=>bh Z<|yp (k:=1) jh type3 Z Z Z Z Z (fun _=>.head) (by simp) (by decide) (CD (fun _=>Z) xs) (by show (_+_)*8≤_;simp<;>omega) (by simp<;>omega)<|fun i7=>z7 (sB Z)<|z6<|zh<|zm (x:=.own _ _) Z ?_
  exact ⟨i7,(by simp),by rw[←rl];rfl⟩
theorem kG (f:ac) {k:Nat} (h:k<f.blocks.length):(bU f f.blocks.length)[k]?=some (bl (ah f) f.blocks.length (k:Int)):=by unfold bU;rw[qr,List.getElem?_range h];rfl
theorem tI (f:ac) (hE:ef f) (hf:small f):aF prog E 74 [.agg (b9 f)] (.bool (df f)):=by
 have hn:=hf.2.2.1
 refine zk func74 Z (by decide) Z<|ae<|zy (cs:=_) Z Z Z<|ad Z<|z6<|ae<|ab jx js Z Z<|zg (oz f hE (by omega)) Z<|z7 (um Z)<|z6<|ze<|ae<|aj jt Z Zj Z Z<|bd Zn Z<|au jw Z<|aa Z<|z6<|zj<|ya (γ:=Nat) [3,12,13] (fun k=>[(14,.int .i64 k)]) (fun k=>[]) (fun k=>k≤f.blocks.length∧(List.range k).all (Di f)=true) (fun k=>f.blocks.length - k) 0 aT aJ (⟨qm _,Z⟩) ?_
 rintro k ⟨hk,hall⟩
 refine ae<|ax Z Z<|z6<|ze<|zp Z (fun ck=>?_) (fun ck=>?_)
 ·have hk2:k<f.blocks.length:=by simp at ck;omega
  obtain ⟨b,hbk⟩:∃b,f.blocks[k]=b:=⟨_,rfl⟩
  have hget:f.blocks[k]?=some b:=by rw[qj hk2,hbk]
  obtain ⟨hb0,hb1,hb2,hb3,hb4⟩:=hf.2.2.2.2 b (hbk▸qn hk2)
  refine zi<|ze<|zj<|ae<|aa Z<|z7 (db k jw Z2 Z Z Z hget)<|ab Y6 Z2 Z Z<|zo (cs:=[.str ⟨#[]⟩,.raw (.slice none 0 0),.raw (.slice none 0 0),.int .i64 0,.int .i64 0,.int .i64 0,.int .i64 0]) Zf Z Z<|fun i5=>aq Z<|zf Z2 Z Z Z Z Z Z .head Z<|zc (yk (t:=5) Z .head)<|z6<|ae<|aj jy Z Yc Z Z<|bd isAgg49 Z<|au Zc Z<|aa Z<|z6<|zj<|ya (γ:=Nat) [3,4,12,13,14,20,21] (fun j=>[(22,.int .i64 j)]) (fun j=>[]) (fun j=>j≤b.phis.length∧(b.phis.take j).all (Fe f k)=true) (fun j=>b.phis.length - j) 0 aT aJ (⟨qm _,Z⟩) ?_
  rintro j ⟨hj,hjall⟩
  refine ae<|ax Z Z<|z6<|ze<|zp Z (fun cj=>?_) (fun cj=>?_)
  ·have hj2:j<b.phis.length:=by simp at cj;omega
   have hpf:=(hb3 _ (qn hj2)).2
   refine zi<|ze<|zj<|ae<|z7 (db j Zc Zg Z Z Z (qj hj2))<|ab isAgg63 Zg Z Z<|zo (cs:=[.int .i64 0,.raw (.slice none 0 0),.raw (.slice none 0 0)]) zeroValue63 Z Z<|fun i7=>zf Zg Z Z Z Z Z Z .head Z<|zc (yk (t:=7) Z .head)<|z6<|ae<|aj Za Z jr Z Z<|bd jv Z<|zq Z (zn (.rest _)) (Gf b.phis[j].from_ hpf) ?_
   rintro r28 O28 ⟨i8,rfl,rfl⟩
   refine z7 (sB Z)<|z6<|ae<|z7 (mR Z)<|zq Z (zn (.l (.rest _))) (tr b.phis[j].from_ i8 _ (by omega)) ?_
   rintro r30 O30 ⟨rfl,rfl⟩
   refine z6<|yh (aN.knowI (t:=8) Z .head (by rw[(dC _).length_eq]))<|ae<|bh Z<|bh Z<|aa Z<|z7 (db k jj jr Z Z Z (kG f hk2))<|bd jv Z<|zg (me (iq b.phis[j].from_) (bl (ah f) f.blocks.length (k:Int)) (by unfold ow;rw[(dC _).length_eq];omega)) Z<|z7 (yo Z)<|z6<|zz Z (fun cq=>?_) (fun cq=>?_)
   ·refine ae<|ad Z<|z6<|zh<|zm (x:=.bool _) Z ?_
    rw[show df f=false from fh hk2 (by rw[mQ hget];exact Bool.eq_false_iff.2 (fj hj2 (by simpa [Fe] using cq)))]
   ·refine zi<|bD<|aQ Z Z<|aa Z<|z6 ?_
    exact ⟨j+1,Aw,aT,aJ,⟨hj2,fv hj2 hjall (by simpa [Fe] using cq)⟩,by omega⟩
  ·have hjn:j=b.phis.length:=by simp at cj;omega
   subst hjn
   rw[qo] at hjall
   refine y8<|bD<|aQ Z Z<|aa Z<|z6 ?_
   exact ⟨k+1,bX,aT,aJ,⟨hk2,eF hall (by rw[mQ hget];exact hjall)⟩,by omega⟩
 ·have hkn:k=f.blocks.length:=by simp at ck;omega
  subst hkn
  refine y8<|ae<|ad Z<|z6<|zh<|zm (x:=.bool _) Z ?_
  rw[show df f=true from hall]
theorem rR (f:ac) (hf:small f) (hL:aE E):aF prog E 52 [.agg (b9 f)] (.int .i64 (if (bf f&&df f)=true then 0 else 3)):=by
 refine zk func52 Z (by decide) Z<|ae<|zy (cs:=_) Z Z Z<|aq Z<|z6<|ze<|ae<|ab jx js Z Z<|zg (g9 f hf hL) Z<|z7 (yo Z)<|ay Z<|zx (s:=6) Z (fun ct=>?_) (fun ct=>?_)
 ·refine z8 Z Z ct<|z8 Z Z ct<|z8 Z Z ct<|aM Z ct Z<|z6<|yq Z Z<|ae<|aq Z<|z6<|zh<|zm (x:=.int _ _) Z ?_
  rw[show bf f=false by simpa using ct];rfl
 ·have ht:bf f=true:=by simpa using ct
  refine za Z Z ct<|ab jx js Z Z<|za Z Z ct<|zg (tI f (dK ht) hf) Z<|za Z Z ct<|z7 (yo Z)<|aD Z ct Z<|z6<|zz Z (fun cj=>?_) (fun cj=>?_)
  ·refine ae<|aq Z<|z6<|zh<|zm (x:=.int _ _) Z ?_
   rw[show df f=false by simpa using cj];simp
  ·refine zi<|ae<|aq Z<|z6<|zh<|zm (x:=.int _ _) Z ?_
   rw[ht,show df f=true by simpa using cj];rfl
end
section
open Go.Proofs.Tryz
section
variable {S:Int→List Int} {at_:Int→Int} {V:List Int} {N:Int→Int}
theorem zX (hV:oT S at_ V) (hN:gn S at_ V N) {K:Nat} (hK:∀a b,a∈V→b∈V→at_ a+at_ b<K) {x y:Int} (hx:N x≠-1) (hy:N y≠-1) (hlt:at_ y<at_ x) :
  x≠0∧N (N x)≠-1∧at_ (N x)<at_ x∧cM N at_ K x y=cM N at_ K (N x) y:=by
 have h1:=(hV.pos x).1 (hN.mem x hx)
 have h2:=(hV.pos y).1 (hN.mem y hy)
 have h3:=hK x y (hN.mem x hx) (hN.mem y hy)
 have hx0:x≠0:=fun e=>by rw[e,hV.zero] at hlt;omega
 obtain ⟨g1,g2,g3⟩:=hN.near x hx0 hx
 refine ⟨hx0,g2,g3,?_⟩
 obtain ⟨k,rfl⟩:∃k,K=k+1:=⟨K - 1,by omega⟩
 have hm:=jJ hV hN k (k+1) (N x) y g2 hy (by omega) (by omega)
 rw[hm]
 show (if x=y then x else if at_ y<at_ x then cM N at_ k (N x) y else cM N at_ k x (N y))=_
 rw[if_neg (fun e=>by rw[e] at hlt;omega),if_pos hlt]
theorem vv (hV:oT S at_ V) (hN:gn S at_ V N) {K:Nat} (hK:∀a b,a∈V→b∈V→at_ a+at_ b<K) {x y:Int} (hx:N x≠-1) (hy:N y≠-1) (hlt:at_ x<at_ y) :
  y≠0∧N (N y)≠-1∧at_ (N y)<at_ y∧cM N at_ K x y=cM N at_ K x (N y):=by
 have h1:=(hV.pos x).1 (hN.mem x hx)
 have h2:=(hV.pos y).1 (hN.mem y hy)
 have h3:=hK x y (hN.mem x hx) (hN.mem y hy)
 have hy0:y≠0:=fun e=>by rw[e,hV.zero] at hlt;omega
 obtain ⟨g1,g2,g3⟩:=hN.near y hy0 hy
 refine ⟨hy0,g2,g3,?_⟩
 obtain ⟨k,rfl⟩:∃k,K=k+1:=⟨K - 1,by omega⟩
 have hm:=jJ hV hN k (k+1) x (N y) hx g2 (by omega) (by omega)
 rw[hm]
 show (if x=y then x else if at_ y<at_ x then cM N at_ k (N x) y else cM N at_ k x (N y))=_
 rw[if_neg (fun e=>by rw[e] at hlt;omega),if_neg (by omega)]
theorem zY {K:Nat} (hK:0<K) (x:Int):cM N at_ K x x=x:=by
 obtain ⟨k,rfl⟩:∃k,K=k+1:=⟨K - 1,by omega⟩
 show (if x=x then x else _)=x
 rw[if_pos rfl]
end
def tJ (n:Nat) (V:List Int) (k:Nat):List Int:=((V.take k).zipIdx).foldl (fun l p=>l.set p.1.toNat (p.2:Int)) (List.replicate n (-1))
theorem lT {α:Type} {g:List Int→α→List Int} (h:∀l x,(g l x).length=l.length):∀(ws:List α) (l:List Int),(ws.foldl g l).length=l.length
 |[],_=>rfl
 |w::ws,l=>by rw[List.foldl_cons,lT h ws,h]
theorem oJ (n:Nat) (V:List Int) (k:Nat):(tJ n V k).length=n:=by unfold tJ;rw[lT (fun l x=>List.length_set)];simp
theorem zZ {n:Nat} {V:List Int} {k:Nat} (h:k<V.length):(tJ n V k).set V[k].toNat (k:Int)=tJ n V (k+1):=by
 unfold tJ;rw[kW h,List.foldl_append];rfl
theorem tK (n:Nat) (V:List Int):tJ n V V.length=cS n V:=by unfold tJ cS;rw[qo]
section
variable {S:Int→List Int} {at_ V:List Int} {preds:Int→List Int} {n:Nat}
def oK (at_:List Int) (K:Nat) (preds:Int→List Int) (V l:List Int) (q:Nat):List Int:=((V.drop 1).take q).foldl (gz at_ K preds) l
theorem vw {K q:Nat} {l:List Int} (h:q<(V.drop 1).length):oK at_ K preds V l (q+1)=gz at_ K preds (oK at_ K preds V l q) (V.drop 1)[q]:=by
 unfold oK;rw[qk h,List.foldl_append];rfl
theorem Aa {K:Nat} {l:List Int}:oK at_ K preds V l (V.drop 1).length=pi at_ K preds V l:=by
 unfold oK pi;rw[qo,List.drop_one]
theorem Ab {K q:Nat} (l:List Int):(oK at_ K preds V l q).length=l.length:=nh K _ _
end
section
variable {E:Int→List Int} {n:Nat}
theorem p9 (hE:gA E n) {b p:Int} (h:p∈bl E n b):0≤p∧p<n:=by
 unfold bl at h
 obtain ⟨i,h1,h2⟩:=List.mem_flatMap.1 h
 obtain ⟨c,_,rfl⟩:=List.mem_map.1 h2
 exact fL.1 h1
def ba (E:Int→List Int) (n:Nat):List Int:=(bS E n).set 0 (-1)
theorem eu (E:Int→List Int) (n:Nat):(ba E n).length=n:=by unfold ba;rw[List.length_set,jL]
theorem fe {b:Int} (h0:0≤b) (hb:b≠0):gi (ba E n) b=gi (bS E n) b:=by
 unfold ba gi
 rw[if_pos h0,if_pos h0,List.getElem?_set_ne (by omega)]
theorem rS (hn:0<n):gi (ba E n) 0=-1:=by
 unfold ba gi
 rw[if_pos (Int.le_refl _)]
 simp[jL,hn]
end
theorem vx (N at_:Int→Int) (K:Nat) (p:Int) (ps:List Int) (m:Int):eQ N at_ K (p::ps) m=eQ N at_ K ps (if at_ p=-1∨N p=-1 then m else if m=-1 then p else cM N at_ K m p):=rfl
end
end Go.Proofs.YthphijnnbfjikaaGreatDoor
