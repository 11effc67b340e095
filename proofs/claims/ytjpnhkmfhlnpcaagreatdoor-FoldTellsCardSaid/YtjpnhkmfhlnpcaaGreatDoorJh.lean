/- The document's machine told as plain data, and what stays so in it. No conditions. -/
import Derived.Test.YtjpnhkmfhlnpcaaGreatDoorJg
import Derived.Test.YtjpnhkmfhlnpcaaGreatDoorJc
import Derived.Test.YtjpnhkmfhlnpcaaGreatDoorJd
import Derived.Test.YtjpnhkmfhlnpcaaGreatDoorJa
set_option linter.unusedVariables false
set_option linter.unusedSimpArgs false
set_option linter.unusedSectionVars false
namespace Go.Proofs.YtjpnhkmfhlnpcaaGreatDoor
section
open Go.Proofs.Tryz
open Go.Proofs Go.Lib Go.Shelf Go.RowKit
theorem rX:di prog 213 9 1 1 [.str ⟨#[]⟩]:=⟨_,Zb,jy,zeroValue9,by decide,by decide,by kernel_rfl⟩
set_option maxRecDepth 20000
variable {E:World}
def o5 (s:ByteArray) (l:List ByteArray):Bool:=l.any fun t=>decide (t=s)
theorem rY {s:ByteArray} {l:List ByteArray}:o5 s l=true↔s∈l:=by
 unfold o5;rw[List.any_eq_true]
 constructor
 ·rintro ⟨x,hx,h⟩;have h:x=s:=by simpa using h
  exact h▸hx
 ·intro h;exact ⟨s,h,by simp⟩
theorem xA {s t:ByteArray} {l:List ByteArray}:o5 s (l++[t])=(o5 s l||decide (t=s)):=by unfold o5;rw[List.any_append];simp
def qK (l:List ByteArray):Prop:=∀i (h:i<l.length),dc l[i]=true∧o5 l[i] (l.take i)=false
instance (l:List ByteArray):Decidable (qK l):=by unfold qK;infer_instance
theorem rZ {t:ByteArray} {l:List ByteArray} {mt:Int} (ht:mt=if o5 t l=true then 1 else 0) (hc:decide (0<mt)=false):o5 t l=false:=by
 have hc:=of_decide_eq_false hc
 cases h:o5 t l with
 |true=>rw[h] at ht;simp at ht;omega
 |false=>rfl
theorem xB {s t:ByteArray} {l:List ByteArray} {m:Option Int} {mt:Int} (hs:m.getD 0=if o5 s l=true then 1 else 0) (ht:mt=if o5 t l=true then 1 else 0) (hc:decide (0<mt)=false) :
  (if s=t then some (mt+1) else m).getD 0=if (o5 s l||decide (t=s))=true then 1 else 0:=by
 have h:=rZ ht hc
 rw[h] at ht
 have ht:mt=0:=by simpa using ht
 by_cases e:s=t
 ·subst e;simp[ht]
 ·rw[if_neg e,hs]
  have e2:¬t=s:=fun h=>e h.symm
  simp[e2]
theorem xC {l:List ByteArray} {k:Nat} (hn:∀i (h:i<l.length),i<k→dc l[i]=true∧o5 l[i] (l.take i)=false) (hk:k<l.length) (h1:dc l[k]=true) (h2:o5 l[k] (l.take k)=false) :
  ∀i (h:i<l.length),i<k+1→dc l[i]=true∧o5 l[i] (l.take i)=false:=fun i h hi=>by
 by_cases e:i=k
 ·subst e;exact ⟨h1,h2⟩
 ·exact hn i h (by omega)
theorem kA (l:List ByteArray) (hl:l.length≤100000000) (hs:∀s∈l,s.size≤140737488355328) (hL:ah E):aT prog E 144 [.fro 1 (l.map mT)] (.bool (decide (qK l))):=by
 refine zo func144 Z (by decide) Z<|ai<|ad Z<|z7<|ai<|ao.makeMap<|fun b6=>za (Gv.assign (v:=vM _) Z)<|z7<|zb<|ai<|aX Z<|ac Zb Z<|aa Z<|z7<|zh<|y7 (γ:=Nat × List (ByteArray × Int)) [3,7,8] (fun g=>[(9,.int .i64 g.1)]) (fun g=>[(0,vL b6 g.2)]) (fun g=>g.1≤l.length∧(∀i (h:i<l.length),i<g.1→dc l[i]=true∧o5 l[i] (l.take i)=false)∧∀s,(f8 s g.2).getD 0=if o5 s (l.take g.1)=true then 1 else 0) (fun g=>l.length - g.1) (0,[]) aV aU (⟨q5 _,fun i h h2=>absurd h2 (Nat.not_lt_zero _),fun s=>Z⟩) ?_
 rintro ⟨k,es⟩ ⟨hk,hn,hm⟩
 try dsimp only at *
 refine ai<|ay Z Z<|z7<|zb<|zt Z (fun ck=>?_) (fun ck=>?_)
 ·have hk2:k<l.length:=by omega
  have hmk:=hm l[k]
  have hz:=hs _ (q6 hk2)
  refine zf<|zb<|zh<|ai<|za (dG k Zb jy Z Z Z (q2 hk2))<|za (Gv.load1F (c:=.str _) Z1 Z)<|za (Gv.assign (v:=.str _) Z)<|z7<|zb<|ai<|za (yx (v:=.str _) Z)<|ze (qI _ hz hL) Z<|aH Z<|aj Z<|zk (s:=16) Z (fun c1=>?_) (fun c1=>?_)
  ·refine z6 Z Z c1<|z6 Z Z c1<|z6 Z Z c1<|z6 Z Z c1<|ak Z c1 Z<|z7<|yi Z Z<|ai<|ad Z<|z7<|zg<|zi (x:=.bool _) Z ?_
   exact jb (qf fun h=>by have h:=h k hk2;simp_all).symm
  ·refine z8 Z Z c1<|za (yx (v:=vM _) Z)<|z8 Z Z c1<|za (yx (v:=.str _) Z)<|z8 Z Z c1<|za (Gv.lookup1S underlying258 jv Zp Z Z ⟨_,.head⟩)<|z8 Z Z c1<|za (yy Z Z)<|al Z c1 Z<|z7<|zu Z (fun c2=>?_) (fun c2=>?_)
   ·refine ai<|ad Z<|z7<|zg<|zi (x:=.bool _) Z ?_
    exact jb (qf fun h=>by have h:=h k hk2;simp_all).symm
   ·refine zf<|bg<|za (yx (v:=vM _) Z)<|za (yx (v:=.str _) Z)<|za (Gv.lookup1S underlying258 jv Zp Z Z ⟨_,.head⟩)<|za (Gv.add Z Z (by first|(unfold nK;omega)|(unfold nK;rw[hmk];split<;>omega)))<|ao.mapSet underlying258 jv Z Z Z .head<|z7<|bg<|za (Gv.add Z Z (by first|(unfold nK;omega)|(unfold nK;rw[hmk];split<;>omega)))<|aa Z<|z7 ?_
    exact ⟨(k+1,kK l[k] ((f8 l[k] es).getD 0+1) es),oE,aV,aU,⟨hk2,xC hn hk2 (by simpa using c1) (rZ hmk (by assumption)),fun s=>by dsimp only;rw[oQ,q3 hk2,xA];exact xB (hm s) hmk (by assumption)⟩,by dsimp only;omega⟩
 ·have hkn:k=l.length:=by omega
  refine zy<|ai<|ad Z<|z7<|zg<|zi (x:=.bool _) Z ?_
  exact jb (qe fun i h=>hn i h (by omega)).symm
theorem map_take {α:Type} {g:α→ByteArray} {l:List α} {k:Nat} (h:k<l.length):(l.map g).take (k+1)=(l.map g).take k++[g l[k]]:=by
 rw[q3 (by simpa using h)];simp
def cD (f:ae):List ByteArray:=f.vars.map iU.name
def cM (f:ae):List ByteArray:=f.blocks.map az.name
@[simp] theorem E8 (f:ae):(cD f).length=f.vars.length:=by unfold cD;simp
@[simp] theorem E9 (f:ae):(cM f).length=f.blocks.length:=by unfold cM;simp
theorem AZ {f:ae} {k:Nat} (h:k<f.vars.length):(cD f).take (k+1)=(cD f).take k++[f.vars[k].name]:=map_take h
theorem A3 {f:ae} {k:Nat} (h:k<f.blocks.length):(cM f).take (k+1)=(cM f).take k++[f.blocks[k].name]:=map_take h
def A4 (f:ae):Prop:=∀i (h:i<f.params.length),f.params[i]=(i:Int)
instance (f:ae):Decidable (A4 f):=by unfold A4;infer_instance
def A5 (f:ae):Prop:=∀i (h:i<f.vars.length),¬fM f.vars[i].ty=⟨#[]⟩
instance (f:ae):Decidable (A5 f):=by unfold A5;infer_instance
def g0 (f:ae):Prop:=f.vars.length≤512∧f.params.length≤8∧f.params.length≤f.vars.length∧1≤f.blocks.length∧f.blocks.length≤64
instance (f:ae):Decidable (g0 f):=by unfold g0;infer_instance
def dW (f:ae):Prop:=A5 f∧A4 f∧g0 f∧qK (cD f)∧qK (cM f)
instance (f:ae):Decidable (dW f):=by unfold dW;infer_instance
theorem o6 (f:ae) (h1:f.vars.length≤100000000) (h2:f.blocks.length≤100000000) (hp:f.params.length≤100000000) (hn:iZ f) (hL:ah E):aT prog E 105 [.agg (bC f)] (.bool (decide (dW f))):=by
 have hnv:(cD f).length=f.vars.length:=by unfold cD;simp
 have hnb:(cM f).length=f.blocks.length:=by unfold cM;simp
 refine zo func105 Z (by decide) Z<|ai<|y9 (cs:=_) Z Z Z<|ad Z<|z7<|ai<|za (nc Z)<|za (nc Z)<|z7<|iT (t:=3) (k:=1) (T:=9) Z<|fun i3=>iT (t:=4) (k:=1) (T:=9) Z<|fun i4=>zb<|ai<|ap j6 Z Za Z Z<|aP Zi Z<|ac jk Z<|aa Z<|z7<|zh<|y7 (γ:=Nat × Nat) [1,4,12,13] (fun g=>[(3,.own g.2 g.1),(14,.int .i64 g.1)]) (fun g=>[(i4,.grow 1 9 []),(g.2,.grow 1 9 ((((cD f).take g.1).map mT).flatten))]) (fun g=>g.1≤f.vars.length∧∀i (h:i<f.vars.length),i<g.1→¬fM f.vars[i].ty=⟨#[]⟩) (fun g=>f.vars.length - g.1) (0,i3) fF aU (⟨q5 _,fun i h h2=>absurd h2 (Nat.not_lt_zero _)⟩) ?_
 rintro ⟨k,i⟩ ⟨hk,hT⟩
 try dsimp only at *
 refine ai<|ay Z Z<|z7<|zb<|zt Z (fun ck=>?_) (fun ck=>?_)
 ·have hk2:k<f.vars.length:=by simp at ck;omega
  refine zf<|zb<|zh<|ai<|za (dG k jk Zc Z Z Z (q2 hk2))<|ab isAgg66 Zc Z Z<|zp (cs:=[.str ⟨#[]⟩,.int .i64 0]) zeroValue66 Z Z<|fun i6=>zm Zc Z Z Z Z Z Z .head Z<|z7<|ai<|za (iL Z)<|za (zd Z3 Z jy (by decide) Z Z)<|za (zj (c:=.str _) Z1 Z ⟨_,.head⟩ Z)<|y8 (rows:=[[_]]) rX Z Z Z Z Z<|zr (k:=1) Zb type9 Z Z Z Z Z (fun _=>.t2) (by rw[bW (k:=1) (fun _=>rfl),qc];omega) (by decide) Z (by show (_+1)*16≤_;omega) (by show _+1≤_;omega)<|fun i22=>za (mQ Z)<|z7<|ai<|za (zd Z3 Z sizeOf64 (by decide) Z Z)<|za (zj (c:=.int _ _) isAgg64 Z ⟨_,.head⟩ Z)<|ze (o4 _) Z<|za (Gv.eqlT Z Z)<|z7<|zt Z (fun ct=>?_) (fun ct=>?_)
  ·refine ai<|ad Z<|z7<|zg<|zi (x:=.bool _) Z ?_
   exact jb (qf fun h=>h.1 k hk2 (by simpa using ct)).symm
  ·refine zf<|bg<|aB Z Z<|aa Z<|z7 ?_
   exact ⟨(k+1,i22),fv,fF,⟨_,(.drop (.refl _)),by dsimp only;rw[←dB (enc:=mT) (AZ hk2)];rfl⟩,⟨hk2,fun i h h2=>by by_cases e:i=k;(subst e;simpa using ct);exact hT i h (by dsimp only at h2;omega)⟩,by dsimp only;omega⟩
 ·have hkn:k=f.vars.length:=by simp at ck;omega
  subst hkn
  rw[List.take_of_length_le (by omega:(cD f).length≤f.vars.length)]
  have hTys:A5 f:=fun i h=>hT i h h
  refine zy<|zb<|ai<|ap j6 Z ji Z Z<|aP js Z<|ac ja Z<|aa Z<|z7<|zh<|y7 (γ:=Nat × Nat) [1,3,29,30] (fun g=>[(4,.own g.2 g.1),(31,.int .i64 g.1)]) (fun g=>[(g.2,.grow 1 9 ((((cM f).take g.1).map mT).flatten)),(i,.grow 1 9 (((cD f).map mT).flatten))]) (fun g=>g.1≤f.blocks.length) (fun g=>f.blocks.length - g.1) (0,i4) fF aU (q5 _) ?_
  rintro ⟨k,j⟩ hk
  try dsimp only at *
  refine ai<|ay Z Z<|z7<|zb<|zt Z (fun ck=>?_) (fun ck=>?_)
  ·have hk2:k<f.blocks.length:=by simp at ck;omega
   refine zf<|zb<|zh<|ai<|za (dG k ja jj Z Z Z (q2 hk2))<|ab Z7 jj Z Z<|zp (cs:=[.str ⟨#[]⟩,.raw (.slice none 0 0),.raw (.slice none 0 0),.int .i64 0,.int .i64 0,.int .i64 0,.int .i64 0]) ju Z Z<|fun i8=>zm jj Z Z Z Z Z Z .head Z<|z7<|bg<|za (iL Z)<|za (zd j5 Z jy (by decide) Z Z)<|za (zj (c:=.str _) Z1 Z ⟨_,.head⟩ Z)<|y8 (rows:=[[_]]) rX Z Z Z Z Z<|zr (k:=1) Zb type9 Z Z Z Z Z (fun _=>.t1) (by rw[bW (k:=1) (fun _=>rfl),qc];omega) (by decide) Z (by show (_+1)*16≤_;omega) (by show _+1≤_;omega)<|fun i39=>za (mQ Z)<|z7<|bg<|aB Z Z<|aa Z<|z7 ?_
   exact ⟨(k+1,i39),fv,fF,⟨_,(.drop (.refl _)),by dsimp only;rw[←dB (enc:=mT) (A3 hk2)];rfl⟩,hk2,by dsimp only;omega⟩
  ·have hkn:k=f.blocks.length:=by simp at ck;omega
   subst hkn
   rw[List.take_of_length_le (by omega:(cM f).length≤f.blocks.length)]
   refine zy<|zb<|ai<|ap j6 Z je Z Z<|aP jm Z<|ac j4 Z<|aa Z<|z7<|zh<|y7 (γ:=Nat) [1,3,4,42,43] (fun k=>[(44,.int .i64 k)]) (fun k=>[(j,.grow 1 9 (((cM f).map mT).flatten)),(i,.grow 1 9 (((cD f).map mT).flatten))]) (fun k=>k≤f.params.length∧∀i (h:i<f.params.length),i<k→f.params[i]=(i:Int)) (fun k=>f.params.length - k) 0 aV aU (⟨q5 _,fun i h h2=>absurd h2 (Nat.not_lt_zero _)⟩) ?_
   rintro k ⟨hk,hP⟩
   refine ai<|ay Z Z<|z7<|zb<|zt Z (fun ck=>?_) (fun ck=>?_)
   ·have hk2:k<f.params.length:=by simp at ck;omega
    refine zf<|zb<|zh<|ai<|aa Z<|za (dG k j4 j9 Z Z Z (q2 hk2))<|aF jf Z<|aw Z<|aw Z<|z7<|ai<|aa Z<|aa Z<|aG Z Z<|z7<|zu Z (fun cp=>?_) (fun cp=>?_)
    ·refine ai<|ad Z<|z7<|zg<|zi (x:=.bool _) Z ?_
     exact jb (qf fun h=>by have:=h.2.1 k hk2;simp[this] at cp).symm
    ·refine zf<|bg<|aB Z Z<|aa Z<|z7 ?_
     exact ⟨k+1,Ao,aV,aU,⟨hk2,fun i h h2=>by by_cases e:i=k;(subst e;simpa using cp);exact hP i h (by omega)⟩,by omega⟩
   ·have hkn:k=f.params.length:=by simp at ck;omega
    subst hkn
    have hPar:A4 f:=fun i h=>hP i h h
    refine zz (bc.know (t:=3) (rows:=(cD f).map mT) Z .t1 (by intro r hr;obtain ⟨x,_,rfl⟩:=List.mem_map.1 hr;rfl) (by decide) (by simp))<|zz (bc.know (t:=4) (rows:=(cM f).map mT) Z .head (by intro r hr;obtain ⟨x,_,rfl⟩:=List.mem_map.1 hr;rfl) (by decide) (by simp))<|zy<|ai<|aX Z<|ac Zb Z<|za (Gv.leq Z Z)<|aj Z<|zk (s:=56) Z (fun c3=>?_) (fun c3=>?_)
    ·refine z8 Z Z c3<|ap j6 Z je Z Z<|z8 Z Z c3<|aP jm Z<|z8 Z Z c3<|ac j4 Z<|z8 Z Z c3<|aX Z<|z8 Z Z c3<|ac Zb Z<|z8 Z Z c3<|za (Gv.minI Z Z)<|z8 Z Z c3<|za (Gv.leq Z Z)<|ak Z c3 Z<|aj Z<|zk (s:=65) Z (fun c4=>?_) (fun c4=>?_)
     ·refine z8 Z Z c4<|aX Z<|z8 Z Z c4<|ac Zb Z<|z8 Z Z c4<|za (Gv.geq Z Z)<|ak Z c4 Z<|aj Z<|zk (s:=70) Z (fun c5=>?_) (fun c5=>?_)
      ·refine z8 Z Z c5<|aX Z<|z8 Z Z c5<|ac Zb Z<|z8 Z Z c5<|za (Gv.leq Z Z)<|ak Z c5 Z<|aj Z<|zk (s:=75) Z (fun c6=>?_) (fun c6=>?_)
       ·refine z8 Z Z c6<|aX Z<|z8 Z Z c6<|ze (kA (cD f) (by omega) (fun s hs=>by obtain ⟨v,hv,rfl⟩:=List.mem_map.1 hs;exact hn.1 v hv) hL) Z<|ak Z c6 Z<|aj Z<|zk (s:=79) Z (fun c7=>?_) (fun c7=>?_)
        ·refine z8 Z Z c7<|aX Z<|z8 Z Z c7<|ze (kA (cM f) (by omega) (fun s hs=>by obtain ⟨v,hv,rfl⟩:=List.mem_map.1 hs;exact hn.2 v hv) hL) Z<|ak Z c7 Z<|ad Z<|z7<|zg<|zi (x:=.bool _) Z ?_
         exact jb (by unfold dW g0;simp_all<;>grind)
        ·refine z6 Z Z c7<|z6 Z Z c7<|al Z c7 Z<|ad Z<|z7<|zg<|zi (x:=.bool _) Z ?_
         exact jb (by unfold dW g0;simp_all<;>grind)
       ·refine z6 Z Z c6<|z6 Z Z c6<|al Z c6 Z<|aj Z<|z6 Z Z Z<|z6 Z Z Z<|al Z Z Z<|ad Z<|z7<|zg<|zi (x:=.bool _) Z ?_
        exact jb (by unfold dW g0;simp_all<;>grind)
      ·refine z6 Z Z c5<|z6 Z Z c5<|z6 Z Z c5<|al Z c5 Z<|aj Z<|z6 Z Z Z<|z6 Z Z Z<|al Z Z Z<|aj Z<|z6 Z Z Z<|z6 Z Z Z<|al Z Z Z<|ad Z<|z7<|zg<|zi (x:=.bool _) Z ?_
       exact jb (by unfold dW g0;simp_all<;>grind)
     ·refine z6 Z Z c4<|z6 Z Z c4<|z6 Z Z c4<|al Z c4 Z<|aj Z<|z6 Z Z Z<|z6 Z Z Z<|z6 Z Z Z<|al Z Z Z<|aj Z<|z6 Z Z Z<|z6 Z Z Z<|al Z Z Z<|aj Z<|z6 Z Z Z<|z6 Z Z Z<|al Z Z Z<|ad Z<|z7<|zg<|zi (x:=.bool _) Z ?_
      exact jb (by unfold dW g0;simp_all<;>grind)
    ·refine z6 Z Z c3<|z6 Z Z c3<|z6 Z Z c3<|z6 Z Z c3<|z6 Z Z c3<|z6 Z Z c3<|z6 Z Z c3<|al Z c3 Z<|aj Z<|z6 Z Z Z<|z6 Z Z Z<|z6 Z Z Z<|al Z Z Z<|aj Z<|z6 Z Z Z<|z6 Z Z Z<|z6 Z Z Z<|al Z Z Z<|aj Z<|z6 Z Z Z<|z6 Z Z Z<|al Z Z Z<|aj Z<|z6 Z Z Z<|z6 Z Z Z<|al Z Z Z<|ad Z<|z7<|zg<|zi (x:=.bool _) Z ?_
     exact jb (by unfold dW g0;simp_all<;>grind)
def f0 (f:ae) (p:bM):Bool:=!decide (p.args.length=0)&&decide (p.args.length=p.from_.length)&&bf f p.dst&&p.args.all (bf f)&&p.from_.all (cW f)
theorem wa (f:ae) (v:Int):aT prog E 148 ([.int .i64 v]++[.pf (bC f)]) (.bool (!cW f v)):=by
 refine zo func148 Z (by decide) Z<|ai<|ad Z<|z7<|ai<|ab jh j8 Z Z<|aa Z<|ze (kY _ _) Z<|aH Z<|ad Z<|z7<|zg<|zi (x:=.bool _) Z ?_
 rfl
theorem xD (f:ae) (p:bM) (hp:rQ p):aT prog E 108 [.agg (bC f),.agg (aL p)] (.bool (f0 f p)):=by
 have hl1:=hp.1.lt
 have hl2:=hp.2.lt
 refine zo func108 Z (by decide) Z<|ai<|y9 (cs:=_) Z Z Z<|y9 (cs:=_) Z Z Z<|ad Z<|z7<|zb<|ai<|ap jc Z je Z Z<|aP jm Z<|ac j4 Z<|aq Z Z<|aj Z<|zk (s:=9) Z (fun c8=>?_) (fun c8=>?_)
 ·refine z6 Z Z c8<|z6 Z Z c8<|z6 Z Z c8<|z6 Z Z c8<|z6 Z Z c8<|z6 Z Z c8<|z6 Z Z c8<|ak Z c8 Z<|aj Z<|z6 Z Z Z<|z6 Z Z Z<|z6 Z Z Z<|z6 Z Z Z<|z6 Z Z Z<|ak Z Z Z<|aj Z<|z6 Z Z Z<|z6 Z Z Z<|z6 Z Z Z<|z6 Z Z Z<|z6 Z Z Z<|ak Z Z Z<|z7<|yi Z Z<|ai<|ad Z<|z7<|zg<|zi (x:=.bool _) Z ?_
  exact jb (by have:=List.any_eq_not_all_not (l:=p.from_) (p:=fun x=>!cW f x);simp_all[f0,Int.ofNat_inj]<;>grind)
 ·refine z8 Z Z c8<|ap jc Z je Z Z<|z8 Z Z c8<|aP jm Z<|z8 Z Z c8<|ac j4 Z<|z8 Z Z c8<|ap jc Z je Z Z<|z8 Z Z c8<|aP jm Z<|z8 Z Z c8<|ac j4 Z<|z8 Z Z c8<|aG Z Z<|al Z c8 Z<|aj Z<|zk (s:=18) Z (fun c9=>?_) (fun c9=>?_)
  ·refine z6 Z Z c9<|z6 Z Z c9<|z6 Z Z c9<|z6 Z Z c9<|z6 Z Z c9<|ak Z c9 Z<|aj Z<|z6 Z Z Z<|z6 Z Z Z<|z6 Z Z Z<|z6 Z Z Z<|z6 Z Z Z<|ak Z Z Z<|z7<|yi Z Z<|ai<|ad Z<|z7<|zg<|zi (x:=.bool _) Z ?_
   exact jb (by have:=List.any_eq_not_all_not (l:=p.from_) (p:=fun x=>!cW f x);simp_all[f0,Int.ofNat_inj]<;>grind)
  ·refine z8 Z Z c9<|ab jh j8 Z Z<|z8 Z Z c9<|ap jc Z j9 Z Z<|z8 Z Z c9<|aF jf Z<|z8 Z Z c9<|ze (gm _ _) Z<|z8 Z Z c9<|aH Z<|al Z c9 Z<|aj Z<|zk (s:=25) Z (fun c10=>?_) (fun c10=>?_)
   ·refine z6 Z Z c10<|z6 Z Z c10<|z6 Z Z c10<|z6 Z Z c10<|z6 Z Z c10<|ak Z c10 Z<|z7<|yi Z Z<|ai<|ad Z<|z7<|zg<|zi (x:=.bool _) Z ?_
    exact jb (by have:=List.any_eq_not_all_not (l:=p.from_) (p:=fun x=>!cW f x);simp_all[f0,Int.ofNat_inj]<;>grind)
   ·refine z8 Z Z c10<|ab jh j8 Z Z<|z8 Z Z c10<|ap jc Z je Z Z<|z8 Z Z c10<|aP jm Z<|z8 Z Z c10<|ze (ng f p.args (by omega)) Z<|z8 Z Z c10<|aH Z<|al Z c10 Z<|z7<|zu Z (fun c11=>?_) (fun c11=>?_)
    ·refine ai<|ad Z<|z7<|zg<|zi (x:=.bool _) Z ?_
     exact jb (by have:=List.any_eq_not_all_not (l:=p.from_) (p:=fun x=>!cW f x);simp_all[f0,Int.ofNat_inj]<;>grind)
    ·refine zf<|ai<|ap jc Z je Z Z<|aP jm Z<|za (Gv.func Z Z)<|ze (eG p.from_ (by omega) (wa f)) Z<|aH Z<|ad Z<|z7<|zg<|zi (x:=.bool _) Z ?_
     exact jb (by have:=List.any_eq_not_all_not (l:=p.from_) (p:=fun x=>!cW f x);simp_all[f0,Int.ofNat_inj]<;>grind)
end
section
open Go.Proofs.Tryz
open Go.Proofs Go.Lib Go.Shelf Go.RowKit
set_option maxRecDepth 20000
variable {E:World}
theorem kN {p:bM→Bool} {fn:FuncId} {c:List AV} (xs:List bM) (hl:xs.length≤281474976710656) (hp:∀x∈xs,aT prog E fn ([.agg (aL x)]++c) (.bool (p x))) :
  aT prog E 145 [.fro 3 (xs.map aL),.fn fn [] c] (.int .i64 (cA p xs 0)):=by
 refine zo func145 Z (by decide) Z<|ai<|aw Z<|z7<|zb<|ai<|aX Z<|ac jl Z<|aa Z<|z7<|zh<|y7 (γ:=Nat) [0,1,7] (fun k=>[(8,.int .i64 k)]) (fun k=>[]) (fun k=>k≤xs.length∧(xs.take k).all (fun x=>!p x)) (fun k=>xs.length - k) 0 aV aU (⟨q5 _,Z⟩) ?_
 rintro k ⟨hk,hall⟩
 refine ai<|ay Z Z<|z7<|zb<|zt Z (fun ck=>?_) (fun ck=>?_)
 ·have hk2:k<xs.length:=by omega
  refine zf<|zb<|zh<|ai<|aa Z<|aw Z<|z7<|ai<|za (yx (v:=.fn _ _ _) Z)<|aX Z<|aa Z<|za (yk jl jp Z Z Z (q2 (by omega)))<|ab Zf jp Z Z<|ao.callVP Z (hp _ (q6 hk2)) Z<|z7<|zu Z (fun cp=>?_) (fun cp=>?_)
  ·refine ai<|aa Z<|aw Z<|z7<|zg<|zi (x:=.int _ _) Z ?_
   rw[bN p xs k hk hall,List.drop_eq_getElem_cons hk2,cA,if_pos cp]
  ·refine zf<|bg<|aB Z Z<|aa Z<|z7 ?_
   exact ⟨k+1,oE,aV,aU,⟨hk2,by rw[q3 hk2,List.all_append,hall];simp[cp]⟩,by omega⟩
 ·have hkn:k=xs.length:=by omega
  refine zy<|ai<|aw Z<|z7<|zg<|zi (x:=.int _ _) Z ?_
  rw[bN p xs k hk hall,hkn,List.drop_length,cA]
theorem iz {p:bM→Bool} {fn:FuncId} {c:List AV} (xs:List bM) (hl:xs.length≤281474976710656) (hp:∀x∈xs,aT prog E fn ([.agg (aL x)]++c) (.bool (p x))) :
  aT prog E 106 [.fro 3 (xs.map aL),.fn fn [] c] (.bool (xs.any p)):=by
 refine zo func106 Z (by decide) Z<|ai<|ad Z<|z7<|ai<|aX Z<|za (yx (v:=.fn _ _ _) Z)<|ze (kN xs hl hp) Z<|za (Gv.geq Z Z)<|ad Z<|z7<|zg<|zi (x:=.bool _) Z ?_
 rw[eC]
theorem kO {p:bB→Bool} {fn:FuncId} {c:List AV} (xs:List bB) (hl:xs.length≤281474976710656) (hp:∀x∈xs,aT prog E fn ([.agg (aZ x)]++c) (.bool (p x))) :
  aT prog E 80 [.fro 4 (xs.map aZ),.fn fn [] c] (.int .i64 (cA p xs 0)):=by
 refine zo func80 Z (by decide) Z<|ai<|aw Z<|z7<|zb<|ai<|aX Z<|ac jo Z<|aa Z<|z7<|zh<|y7 (γ:=Nat) [0,1,7] (fun k=>[(8,.int .i64 k)]) (fun k=>[]) (fun k=>k≤xs.length∧(xs.take k).all (fun x=>!p x)) (fun k=>xs.length - k) 0 aV aU (⟨q5 _,Z⟩) ?_
 rintro k ⟨hk,hall⟩
 refine ai<|ay Z Z<|z7<|zb<|zt Z (fun ck=>?_) (fun ck=>?_)
 ·have hk2:k<xs.length:=by omega
  refine zf<|zb<|zh<|ai<|aa Z<|aw Z<|z7<|ai<|za (yx (v:=.fn _ _ _) Z)<|aX Z<|aa Z<|za (yk jo jt Z Z Z (q2 (by omega)))<|ab Zm jt Z Z<|ao.callVP Z (hp _ (q6 hk2)) Z<|z7<|zu Z (fun cp=>?_) (fun cp=>?_)
  ·refine ai<|aa Z<|aw Z<|z7<|zg<|zi (x:=.int _ _) Z ?_
   rw[bN p xs k hk hall,List.drop_eq_getElem_cons hk2,cA,if_pos cp]
  ·refine zf<|bg<|aB Z Z<|aa Z<|z7 ?_
   exact ⟨k+1,oE,aV,aU,⟨hk2,by rw[q3 hk2,List.all_append,hall];simp[cp]⟩,by omega⟩
 ·have hkn:k=xs.length:=by omega
  refine zy<|ai<|aw Z<|z7<|zg<|zi (x:=.int _ _) Z ?_
  rw[bN p xs k hk hall,hkn,List.drop_length,cA]
theorem iA {p:bB→Bool} {fn:FuncId} {c:List AV} (xs:List bB) (hl:xs.length≤281474976710656) (hp:∀x∈xs,aT prog E fn ([.agg (aZ x)]++c) (.bool (p x))) :
  aT prog E 58 [.fro 4 (xs.map aZ),.fn fn [] c] (.bool (xs.any p)):=by
 refine zo func58 Z (by decide) Z<|ai<|ad Z<|z7<|ai<|aX Z<|za (yx (v:=.fn _ _ _) Z)<|ze (kO xs hl hp) Z<|za (Gv.geq Z Z)<|ad Z<|z7<|zg<|zi (x:=.bool _) Z ?_
 rw[eC]
theorem nV (f:ae) (p:bM) (hp:rQ p):aT prog E 107 ([.agg (aL p)]++[.pf (bC f)]) (.bool (!f0 f p)):=by
 refine zo func107 Z (by decide) Z<|ai<|y9 (cs:=_) Z Z Z<|ad Z<|z7<|ai<|ab jh j8 Z Z<|ab Zf jp Z Z<|ze (xD _ _ (by assumption)) Z<|aH Z<|ad Z<|z7<|zg<|zi (x:=.bool _) Z ?_
 rfl
theorem nW (f:ae) (x:bB) (hx:lJ x.args):aT prog E 109 ([.agg (aZ x)]++[.pf (bC f)]) (.bool (!b5 f x)):=by
 refine zo func109 Z (by decide) Z<|ai<|y9 (cs:=_) Z Z Z<|ad Z<|z7<|ai<|ab jh j8 Z Z<|ab Zm jt Z Z<|ze (vU _ _ (by assumption)) Z<|aH Z<|ad Z<|z7<|zg<|zi (x:=.bool _) Z ?_
 rfl
def eO (f:ae) (b:az):Bool:=!(b.phis.any fun p=>!f0 f p)&&!(b.insts.any fun x=>!b5 f x)&&bb f b.term
theorem lX {f:ae} {b:az} (h:(b.phis.any fun p=>!f0 f p)=true):eO f b=false:=by unfold eO;rw[h];rfl
theorem lY {f:ae} {b:az} (h:(b.insts.any fun x=>!b5 f x)=true):eO f b=false:=by unfold eO;rw[h];simp
theorem lZ {f:ae} {b:az} (h:(!bb f b.term)=true):eO f b=false:=by unfold eO;rw[show bb f b.term=false by simpa using h];simp
theorem xE {f:ae} {b:az} (h1:(b.phis.any fun p=>!f0 f p)=false) (h2:(b.insts.any fun x=>!b5 f x)=false) (h3:(!bb f b.term)=false):eO f b=true:=by unfold eO;rw[h1,h2,show bb f b.term=true by simpa using h3];rfl
def dx (f:ae):Bool:=decide (dW f)&&(f.blocks.all (eO f)&&decide (du f.blocks≤1024))
theorem o7 (f:ae) (hf:jU f) (h1:f.vars.length≤100000000) (h2:f.blocks.length≤100000000) (hp:f.params.length≤100000000) (hn:iZ f) (hL:ah E):aT prog E 83 [.agg (bC f)] (.bool (dx f)):=by
 refine zo func83 Z (by decide) Z<|ai<|y9 (cs:=_) Z Z Z<|ad Z<|z7<|zb<|ai<|ab jh j8 Z Z<|ze (o6 _ (by omega) (by omega) (by omega) (by assumption) hL) Z<|aH Z<|z7<|zu Z (fun cn=>?_) (fun cn=>?_)
 ·refine ai<|ad Z<|z7<|zg<|zi (x:=.bool _) Z ?_
  exact jb (by unfold dx;rw[show decide (dW f)=false by simpa using cn];rfl)
 ·have hN:dW f:=by simpa using cn
  have hbl:=hN.2.2.1.2.2.2.2
  refine zf<|ai<|aw Z<|z7<|zb<|ai<|ap j6 Z ji Z Z<|aP js Z<|ac ja Z<|aa Z<|z7<|zh<|y7 (γ:=Nat) [1,11,12] (fun k=>[(3,.int .i64 (du (f.blocks.take k))),(13,.int .i64 k)]) (fun k=>[]) (fun k=>k≤f.blocks.length∧du (f.blocks.take k)≤k*562949953421312∧(f.blocks.take k).all (eO f)=true) (fun k=>f.blocks.length - k) 0 fF aU (⟨q5 _,q5 _,Z⟩) ?_
  rintro k ⟨hk,hsum,hall⟩
  refine ai<|ay Z Z<|z7<|zb<|zt Z (fun ck=>?_) (fun ck=>?_)
  ·have hk2:k<f.blocks.length:=by simp at ck;omega
   obtain ⟨b,hbk⟩:∃b,f.blocks[k]=b:=⟨_,rfl⟩
   have hget:f.blocks[k]?=some b:=by rw[q2 hk2,hbk]
   have hb:=hf.2.2.2 b (hbk▸q6 hk2)
   have hb1:=hb.1.lt
   have hb2:=hb.2.1.lt
   have hsucc:=lQ f.blocks k hk2
   rw[hbk] at hsucc
   refine zf<|zb<|zh<|ai<|za (dG k ja jj Z Z Z hget)<|ab Z7 jj Z Z<|zp (cs:=[.str ⟨#[]⟩,.raw (.slice none 0 0),.raw (.slice none 0 0),.int .i64 0,.int .i64 0,.int .i64 0,.int .i64 0]) ju Z Z<|fun i5=>zm jj Z Z Z Z Z Z .head Z<|z7<|ai<|aa Z<|za (zd j5 Z jw (by decide) Z Z)<|za (zj (c:=.fro _ _) Z8 Z ⟨_,.head⟩ Z)<|ac jl Z<|za (zd j5 Z Z0 (by decide) Z Z)<|za (zj (c:=.fro _ _) Ze Z ⟨_,.head⟩ Z)<|ac jo Z<|aB Z Z<|aB Z Z<|aw Z<|z7<|ai<|za (zd j5 Z jw (by decide) Z Z)<|za (zj (c:=.fro _ _) Z8 Z ⟨_,.head⟩ Z)<|za (Gv.func Z Z)<|ze (iz b.phis (by omega) (fun p hp=>nV f p (hb.2.2.1 p hp))) Z<|aj Z<|zk (s:=30) Z (fun c1=>?_) (fun c1=>?_)
   ·refine z6 Z Z c1<|z6 Z Z c1<|z6 Z Z c1<|z6 Z Z c1<|ak Z c1 Z<|ad Z<|z7<|ai<|aj Z<|aj Z<|z6 Z Z Z<|z6 Z Z Z<|z6 Z Z Z<|z6 Z Z Z<|z6 Z Z Z<|ak Z Z Z<|z7<|yi Z Z<|ai<|ad Z<|z7<|zg<|zi (x:=.bool _) Z ?_
    exact jb (by unfold dx;rw[show f.blocks.all (eO f)=false from Bool.eq_false_iff.2 (dM hk2 (by rw[hbk];first|exact lX (by assumption)|exact lY (by assumption)|exact lZ (by assumption)))];simp)
   ·refine z8 Z Z c1<|za (zd j5 Z Z0 (by decide) Z Z)<|z8 Z Z c1<|za (zj (c:=.fro _ _) Ze Z ⟨_,.head⟩ Z)<|z8 Z Z c1<|za (Gv.func Z Z)<|z8 Z Z c1<|ze (iA b.insts (by omega) (fun x hx=>nW f x (hb.2.2.2 x hx))) Z<|al Z c1 Z<|ad Z<|z7<|ai<|aj Z<|aj Z<|zk (s:=37) Z (fun c2=>?_) (fun c2=>?_)
    ·refine z6 Z Z c2<|z6 Z Z c2<|z6 Z Z c2<|z6 Z Z c2<|z6 Z Z c2<|ak Z c2 Z<|z7<|yi Z Z<|ai<|ad Z<|z7<|zg<|zi (x:=.bool _) Z ?_
     exact jb (by unfold dx;rw[show f.blocks.all (eO f)=false from Bool.eq_false_iff.2 (dM hk2 (by rw[hbk];first|exact lX (by assumption)|exact lY (by assumption)|exact lZ (by assumption)))];simp)
    ·refine z8 Z Z c2<|ab jh j8 Z Z<|z8 Z Z c2<|za (zd j5 Z jn (by decide) Z Z)<|z8 Z Z c2<|za (Gv.loadAC (l:=[_,_,_,_]) Zo jn Z ⟨_,.head⟩ Z Z)<|z8 Z Z c2<|ze (vV _ _) Z<|z8 Z Z c2<|aH Z<|al Z c2 Z<|z7<|zu Z (fun c3=>?_) (fun c3=>?_)
     ·refine ai<|ad Z<|z7<|zg<|zi (x:=.bool _) Z ?_
      exact jb (by unfold dx;rw[show f.blocks.all (eO f)=false from Bool.eq_false_iff.2 (dM hk2 (by rw[hbk];first|exact lX (by assumption)|exact lY (by assumption)|exact lZ (by assumption)))];simp)
     ·refine zf<|bg<|aB Z Z<|aa Z<|z7 ?_
      exact ⟨k+1,oE,⟨congrArg (AV.int .i64) (by rw[hsucc];omega),rfl,trivial⟩,⟨_,(.drop (.refl _)),rfl⟩,⟨hk2,by rw[hsucc];omega,bX hk2 hall (by rw[hbk];exact xE (by assumption) (by assumption) (by assumption))⟩,by omega⟩
  ·have hkn:k=f.blocks.length:=by simp at ck;omega
   subst hkn
   rw[q7] at hall ⊢
   refine zy<|ai<|aa Z<|za (Gv.leq Z Z)<|ad Z<|z7<|zg<|zi (x:=.bool _) Z ?_
   exact jb (by unfold dx;rw[qe hN,hall];simp;omega)
theorem no (f:ae) (p:bM):f0 f p=true↔nQ f p:=by
 unfold f0 nQ
 simp only[qg,Bool.not_eq_true',decide_eq_false_iff_not,qh]
 constructor
 ·rintro ⟨⟨⟨⟨h1,h2⟩,h3⟩,h4⟩,h5⟩;exact ⟨h3,h2,by omega,h4,h5⟩
 ·rintro ⟨h3,h2,h1,h4,h5⟩;exact ⟨⟨⟨⟨by omega,h2⟩,h3⟩,h4⟩,h5⟩
theorem nq (t:Int):¬fM t=⟨#[]⟩↔0≤t∧t≤2:=by
 unfold fM
 constructor
 ·intro h
  by_cases h0:t=0
  ·omega
  ·by_cases h1:t=1
   ·omega
   ·by_cases h2:t=2
    ·omega
    ·rw[if_neg h0,if_neg h1,if_neg h2] at h;exact absurd rfl h
 ·intro h e
  have:t=0∨t=1∨t=2:=by omega
  rcases this with rfl|rfl|rfl<;>exact absurd e (by decide)
theorem wb (f:ae) (b:az):eO f b=true↔qx f b:=by
 unfold eO qx
 simp only[qg,Bool.not_eq_true',List.any_eq_false,Bool.not_eq_false]
 constructor
 ·rintro ⟨⟨h1,h2⟩,h3⟩
  exact ⟨fun p hp=>(no f p).1 (by simpa using h1 p hp),fun x hx=>(lU f x).1 (by simpa using h2 x hx),h3⟩
 ·rintro ⟨h1,h2,h3⟩
  exact ⟨⟨fun p hp=>by simpa using (no f p).2 (h1 p hp),fun x hx=>by simpa using (lU f x).2 (h2 x hx)⟩,h3⟩
theorem xF {l:List ByteArray}:qK l↔∀i (h:i<l.length),dc l[i]=true∧l[i] ∉ l.take i:=by
 unfold qK
 constructor<;>intro h i hi
 ·exact ⟨(h i hi).1,fun hm=>by have:=rY.2 hm;rw[(h i hi).2] at this;cases this⟩
 ·exact ⟨(h i hi).1,Bool.eq_false_iff.2 fun hm=>(h i hi).2 (rY.1 hm)⟩
theorem r5 {f:ae} {i:Nat} (h:i<(cD f).length) (h':i<f.vars.length):(cD f)[i]=f.vars[i].name:=by
 have:(cD f)[i]?=some f.vars[i].name:=by unfold cD;rw[qa,q2 h'];rfl
 rw[q2 h] at this
 simpa using this
theorem r6 {f:ae} {i:Nat} (h:i<(cM f).length) (h':i<f.blocks.length):(cM f)[i]=f.blocks[i].name:=by
 have:(cM f)[i]?=some f.blocks[i].name:=by unfold cM;rw[qa,q2 h'];rfl
 rw[q2 h] at this
 simpa using this
theorem dy (f:ae):dx f=decide (bw f):=by
 rw[Bool.eq_iff_iff,decide_eq_true_iff]
 unfold dx
 simp only[qg,decide_eq_true_iff,List.all_eq_true,wb]
 unfold dW g0 bw iY
 simp only[xF]
 constructor
 ·rintro ⟨⟨h1,h2,⟨g1,g2,g3,g4,g5⟩,h4,h5⟩,h6,h7⟩
  refine ⟨?_,h2,fun i h=>?_,fun i h=>?_,h7,h6⟩
  ·simp;omega
  ·have ht:=(nq _).1 (h1 i h)
   have hu:=h4 i (by unfold cD;simpa using h)
   have e:=r5 (f:=f) (i:=i) (by unfold cD;simpa using h) h
   rw[e] at hu
   exact ⟨by rw[kZ];exact hu.1,ht.1,ht.2,fun s hs e2=>hu.2 (by unfold cD;rw[←List.map_take,←e2];exact hs)⟩
  ·have hu:=h5 i (by unfold cM;simpa using h)
   have e:=r6 (f:=f) (i:=i) (by unfold cM;simpa using h) h
   rw[e] at hu
   exact ⟨by rw[kZ];exact hu.1,fun s hs e2=>hu.2 (by unfold cM;rw[←List.map_take,←e2];exact hs)⟩
 ·rintro ⟨h1,h2,h3,h4,h7,h6⟩
  simp at h1
  refine ⟨⟨fun i h=>(nq _).2 ⟨(h3 i h).2.1,(h3 i h).2.2.1⟩,h2,by omega,fun i h=>?_,fun i h=>?_⟩,h6,h7⟩
  ·have h':i<f.vars.length:=by simpa using h
   have e:=r5 h h'
   rw[e]
   exact ⟨by rw[←kZ];exact (h3 i h').1,fun hm=>(h3 i h').2.2.2 _ (by unfold cD at hm;rw[←List.map_take] at hm;exact hm) rfl⟩
  ·have h':i<f.blocks.length:=by simpa using h
   have e:=r6 h h'
   rw[e]
   exact ⟨by rw[←kZ];exact (h4 i h').1,fun hm=>(h4 i h').2 _ (by unfold cM at hm;rw[←List.map_take] at hm;exact hm) rfl⟩
end
section
open Go.Proofs.Tryz
open Go.Proofs Go.Lib Go.Shelf Go.RowKit
variable {E:World}
set_option maxRecDepth 20000
theorem bw.ends {f:ae} (h:bw f):bk f:=by
 obtain ⟨h1,_,_,_,_,h6⟩:=h
 unfold iY at h1
 simp only[Bool.or_eq_false_iff,decide_eq_false_iff_not] at h1
 refine ⟨by omega,fun b hb c hc=>?_⟩
 have ht:=(h6 b hb).2.2
 unfold bb at ht
 unfold aO at hc
 split at hc
 ·rename_i hk
  rw[if_pos hk] at ht
  simp only[qg,cW,qh] at ht
  simp at hc;subst hc;exact ht.1.1
 ·rename_i hk
  rw[if_neg hk] at ht
  split at hc
  ·rename_i hk1
   rw[if_pos hk1] at ht
   simp only[qg,cW,qh] at ht
   split at hc
   ·simp at hc;subst hc;exact ht.1.2
   ·simp at hc;rcases hc with rfl|rfl
    ·exact ht.1.2
    ·exact ht.2
  ·cases hc
def ef (f:ae) (b:az):Bool:=b.phis.all (kM f)&&b.insts.all (fw f)&&bQ f b.term
def aS (f:ae):Bool:=dx f&&f.blocks.all (ef f)
theorem small.shaped {f:ae} (hf:small f) (hL:ah E):aT prog E 83 [.agg (bC f)] (.bool (dx f)):=
 o7 f hf.ok (by have:=hf.1;omega) (by have:=hf.2.2.1;omega) (by have:=hf.2.1;omega) hf.names hL
theorem gx {f:ae} {t:b9} (h:bb f t=true) (hk:¬t.kind=0):bf f t.var=true:=by
 unfold bb at h
 rw[if_neg hk] at h
 split at h
 ·simp only[qg] at h;exact h.1.1
 ·split at h
  ·simp only[qg] at h;exact h.1
  ·cases h
theorem qL (f:ae) (hf:small f) (hL:ah E):aT prog E 64 [.agg (bC f)] (.int .i64 (if aS f then 0 else 3)):=by
 have hok:=hf.ok
 refine zo func64 Z (by decide) Z<|ai<|y9 (cs:=_) Z Z Z<|aw Z<|z7<|zb<|ai<|ab jh j8 Z Z<|ze (hf.shaped hL) Z<|aH Z<|z7<|zu Z (fun cs=>?_) (fun cs=>?_)
 ·refine ai<|aw Z<|z7<|zg<|zi (x:=.int _ _) Z ?_
  unfold aS;rw[show dx f=false by simpa using cs];rfl
 ·have hsb:dx f=true:=by simpa using cs
  have hS:bw f:=by rw[dy] at hsb;exact of_decide_eq_true hsb
  have hB:=hS.2.2.2.2.2
  have hfl:=hok.2.2.1.lt
  refine zf<|zb<|ai<|ap j6 Z ji Z Z<|aP js Z<|ac ja Z<|aa Z<|z7<|zh<|y7 (γ:=Nat) [1,13,14] (fun k=>[(15,.int .i64 k)]) (fun k=>[]) (fun k=>k≤f.blocks.length∧(f.blocks.take k).all (ef f)=true) (fun k=>f.blocks.length - k) 0 aV aU (⟨q5 _,Z⟩) ?_
  rintro k ⟨hk,hall⟩
  refine ai<|ay Z Z<|z7<|zb<|zt Z (fun ck=>?_) (fun ck=>?_)
  ·have hk2:k<f.blocks.length:=by simp at ck;omega
   obtain ⟨b,hbk⟩:∃b,f.blocks[k]=b:=⟨_,rfl⟩
   have hget:f.blocks[k]?=some b:=by rw[q2 hk2,hbk]
   have hmem:b∈f.blocks:=hbk▸q6 hk2
   obtain ⟨hph,hin,htm⟩:=hB b hmem
   have hbad:ef f b=false→aS f=false:=fun h=>by unfold aS;rw[Bool.eq_false_iff.2 (dM hk2 (by rw[hbk];exact h))];simp
   have hs5:=hok.2.2.2 b hmem
   have hpl:=hs5.1.lt
   have hil:=hs5.2.1.lt
   refine zf<|zb<|zh<|ai<|za (dG k ja jj Z Z Z hget)<|ab Z7 jj Z Z<|zp (cs:=[.str ⟨#[]⟩,.raw (.slice none 0 0),.raw (.slice none 0 0),.int .i64 0,.int .i64 0,.int .i64 0,.int .i64 0]) ju Z Z<|fun i4=>zm jj Z Z Z Z Z Z .head Z<|zx (yp (t:=4) Z .head)<|z7<|zb<|ai<|ap j5 Z jw Z Z<|aP Z8 Z<|ac jl Z<|aa Z<|z7<|zh<|y7 (γ:=Nat) [1,4,13,14,15,20,21] (fun p=>[(22,.int .i64 p)]) (fun p=>[]) (fun p=>p≤b.phis.length∧(b.phis.take p).all (kM f)=true) (fun p=>b.phis.length - p) 0 aV aU (⟨q5 _,Z⟩) ?_
   rintro p ⟨hp,hpall⟩
   refine ai<|ay Z Z<|z7<|zb<|zt Z (fun cp=>?_) (fun cp=>?_)
   ·have hp2:p<b.phis.length:=by simp at cp;omega
    have hpm:=q6 hp2
    have hP:=hph _ hpm
    refine zf<|zb<|zh<|ai<|za (dG p jl jp Z Z Z (q2 hp2))<|ab Zf jp Z Z<|zp (cs:=[.int .i64 0,.raw (.slice none 0 0),.raw (.slice none 0 0)]) jz Z Z<|fun i6=>zm jp Z Z Z Z Z Z .head Z<|zx (yp (t:=6) Z .head)<|z7<|ai<|ab jh j8 Z Z<|ab Zf jp Z Z<|ze (vR f b.phis[p] (hs5.2.2.1 _ hpm) hP.2.2.2.1 hP.1) Z<|aH Z<|z7<|zu Z (fun cq=>?_) (fun cq=>?_)
    ·refine ai<|aw Z<|z7<|zg<|zi (x:=.int _ _) Z ?_
     rw[hbad (by unfold ef;rw[Bool.eq_false_iff.2 (dM hp2 (by simpa using cq))];rfl)];rfl
    ·refine zf<|bg<|aB Z Z<|aa Z<|z7 ?_
     exact ⟨p+1,gY,aV,aU,⟨hp2,bX hp2 hpall (by simpa using cq)⟩,by omega⟩
   ·have hpn:p=b.phis.length:=by simp at cp;omega
    subst hpn
    rw[q7] at hpall
    refine zy<|zb<|ai<|ap j5 Z Z0 Z Z<|aP Ze Z<|ac jo Z<|aa Z<|z7<|zh<|y7 (γ:=Nat) [1,4,13,14,15,32,33] (fun q=>[(34,.int .i64 q)]) (fun q=>[]) (fun q=>q≤b.insts.length∧(b.insts.take q).all (fw f)=true) (fun q=>b.insts.length - q) 0 aV aU (⟨q5 _,Z⟩) ?_
    rintro q ⟨hq,hqall⟩
    refine ai<|ay Z Z<|z7<|zb<|zt Z (fun cp2=>?_) (fun cp2=>?_)
    ·have hq2:q<b.insts.length:=by simp at cp2;omega
     have hqm:=q6 hq2
     have hI:=nU (hin _ hqm)
     have hId:cK b.insts[q].op=true→bf f b.insts[q].dst=true:=fun h=>by
      rcases hI.dst with ⟨d1,_⟩|⟨_,_,d3⟩
      ·rw[h] at d1;cases d1
      ·exact d3
     refine zf<|zb<|zh<|ai<|za (dG q jo jt Z Z Z (q2 hq2))<|ab Zm jt Z Z<|zp (cs:=[.int .i64 0,.int .i64 0,.raw (.slice none 0 0),.int .i64 0]) Zg Z Z<|fun i8=>zm jt Z Z Z Z Z Z .head Z<|zx (yp (t:=8) Z .head)<|z7<|ai<|ab jh j8 Z Z<|ab Zm jt Z Z<|ze (qt f b.insts[q] (List.all_eq_true.2 hI.args) hI.len hId) Z<|aH Z<|z7<|zu Z (fun cq=>?_) (fun cq=>?_)
     ·refine ai<|aw Z<|z7<|zg<|zi (x:=.int _ _) Z ?_
      rw[hbad (by unfold ef;rw[hpall,Bool.eq_false_iff.2 (dM hq2 (by simpa using cq))];rfl)];rfl
     ·refine zf<|bg<|aB Z Z<|aa Z<|z7 ?_
      exact ⟨q+1,gY,aV,aU,⟨hq2,bX hq2 hqall (by simpa using cq)⟩,by omega⟩
    ·have hqn:q=b.insts.length:=by simp at cp2;omega
     subst hqn
     rw[q7] at hqall
     refine zy<|ai<|ab jh j8 Z Z<|ap j5 Z jn Z Z<|ab Zo jn Z Z<|ze (qv f b.term (gx htm)) Z<|aH Z<|z7<|zu Z (fun ct=>?_) (fun ct=>?_)
     ·refine ai<|aw Z<|z7<|zg<|zi (x:=.int _ _) Z ?_
      rw[hbad (by unfold ef;rw[hpall,hqall];simpa using ct)];rfl
     ·refine zf<|bg<|aB Z Z<|aa Z<|z7 ?_
      exact ⟨k+1,oE,aV,aU,⟨hk2,bX hk2 hall (by rw[hbk];unfold ef;rw[hpall,hqall];simpa using ct)⟩,by omega⟩
  ·have hkn:k=f.blocks.length:=by simp at ck;omega
   subst hkn
   rw[q7] at hall
   refine zy<|ai<|aw Z<|z7<|zg<|zi (x:=.int _ _) Z ?_
   unfold aS;rw[hsb,hall];rfl
end
section
open Go.Proofs.Tryz
open Go.Proofs Go.Lib
def eh (f:ae):List Int:=bP (au f) f.blocks.length
def D2:az:=⟨⟨#[]⟩,[],[],⟨0,0,0,0⟩⟩
def bu (f:ae) (x:Int):az:=(f.blocks[x.toNat]?).getD D2
def gy (p:bM):List (Int × Int):=p.from_.zip p.args
def gX (ν β:Int→Int) (t:b9):b9:=
 if t.kind=0 then ⟨t.kind,t.var,β t.to0,t.to1⟩ else if t.kind=1 then ⟨t.kind,ν t.var,β t.to0,β t.to1⟩ else ⟨t.kind,ν t.var,t.to0,t.to1⟩
def o8 (ν:Int→Int) (x:bB):bB:=⟨x.op,if 0≤x.dst then ν x.dst else x.dst,x.args.map ν,x.num⟩
def gz (x:bB):List Int:=x.args++if 0≤x.dst then[x.dst] else[]
def gA (t:b9):List Int:=if t.kind=0 then[] else[t.var]
structure D3 (R V:Int→Prop) (β ν:Int→Int) (b c:az):Prop where
 nphi:c.phis.length=b.phis.length
 phi:∀(i:Nat) (p q:bM),b.phis[i]?=some p→c.phis[i]?=some q→q.dst=ν p.dst∧V p.dst∧q.from_.length=q.args.length∧∃k:List (Int × Int),(∀z,z∈k↔z∈gy p∧R z.1)∧List.Sublist k (gy p)∧(∀z∈k,V z.2)∧(gy q).Perm (k.map fun z=>(β z.1,ν z.2))
 insts:c.insts=b.insts.map (o8 ν)
 instv:∀x∈b.insts,∀v∈gz x,V v
 term:c.term=gX ν β b.term
 termv:∀v∈gA b.term,V v
structure o9 (R V:Int→Prop) (β ν:Int→Int) (f g:ae):Prop where
 okf:bk f
 okg:bk g
 r0:R 0
 b0:β 0=0
 rng:∀x,R x→(0≤x∧x<f.blocks.length)∧0≤β x∧β x<g.blocks.length
 cl:∀x,R x→∀c∈au f x,R c
 onto:∀y:Int,0≤y→y<g.blocks.length→∃x,R x∧β x=y
 inj:∀x y,R x→R y→β x=β y→x=y
 blk:∀x,R x→D3 R V β ν (bu f x) (bu g (β x))
 par:g.params=f.params
 parv:∀v∈f.params,V v∧ν v=v
 vty:∀v,V v→0≤v∧0≤ν v∧aY g (ν v)=aY f v
 vinj:∀u v,V u→V v→ν u=ν v→u=v
theorem fN {f:ae} {x:Int} (h0:0≤x) (h1:x<f.blocks.length):au f x=aO (bu f x).term:=by
 unfold au bu
 rw[if_pos h0,q2 (by omega)];rfl
theorem nr {ν β:Int→Int} {t:b9} (h:∀x∈aO t,∀y∈aO t,β x=β y→x=y):aO (gX ν β t)=(aO t).map β:=by
 unfold aO gX at *
 by_cases h0:t.kind=0
 ·rw[if_pos h0];dsimp only;rw[if_pos h0,if_pos h0];rfl
 ·rw[if_neg h0] at h ⊢
  by_cases h1:t.kind=1
  ·rw[if_pos h1] at h ⊢
   dsimp only
   rw[if_neg h0,if_pos h1]
   by_cases e:t.to0=t.to1
   ·rw[if_pos e,if_pos (by rw[e]),if_neg h0,if_pos h1];rfl
   ·rw[if_neg e] at h ⊢
    rw[if_neg fun k=>e (h _ (by simp) _ (by simp) k),if_neg h0,if_pos h1];rfl
  ·rw[if_neg h1];dsimp only;rw[if_neg h0,if_neg h1];rfl
section
variable {R V:Int→Prop} {β ν:Int→Int} {f g:ae} (h:o9 R V β ν f g)
include h
theorem o9.leads {x:Int} (hx:R x):au g (β x)=(au f x).map β:=by
 have hr:=h.rng x hx
 rw[fN hr.1.1 hr.1.2,fN hr.2.1 hr.2.2,(h.blk x hx).term]
 apply nr
 rw[←fN hr.1.1 hr.1.2]
 exact fun a ha b hb=>h.inj a b (h.cl x hx a ha) (h.cl x hx b hb)
end
end
section
open Go.Proofs.Tryz
open Go.Proofs Go.Lib
def r7 (p:bM):Prop:=((gy p).map (·.1)).Nodup
section
variable {R V:Int→Prop} {β ν:Int→Int} {f g:ae} (h:o9 R V β ν f g) (hD:∀x,R x→∀p∈(bu f x).phis,r7 p)
include h
include hD
end
end
section
open Go.Proofs.Tryz
open Go.Proofs Go.Lib
def gB (f:ae):List Nat:=(List.range f.blocks.length).filter fun (b:Nat)=>decide ((b:Int)∈eh f)
def bO (f:ae) (x:Int):Int:=if x∈eh f then ((gB f).idxOf x.toNat:Int) else -1
def ff (nm:Int→Int) (fr:List Int) (p:bM):List (Int × Int):=(gy p).filter fun z=>decide (z.1∈fr∧0≤nm z.1)
def bS (nm:Int→Int) (fr:List Int) (p:bM):bM:=⟨p.dst,(ff nm fr p).map (·.2),(ff nm fr p).map fun z=>nm z.1⟩
def eP (nm:Int→Int) (fr:List Int) (b:az):az:=⟨b.name,b.phis.map (bS nm fr),b.insts,gX id nm b.term⟩
def cY (f:ae) (b:Nat):List Int:=bn (au f) f.blocks.length b
def bt (f:ae):ae:=⟨f.vars,f.params,(gB f).map fun b=>eP (bO f) (cY f b) (bu f b)⟩
section
variable {f:ae}
theorem l3 {b:Nat} (hE:bk f):b∈gB f↔(b:Int)∈eh f:=by
 unfold gB
 rw[List.mem_filter,List.mem_range,qh]
 exact ⟨fun h=>h.2,fun h=>⟨by have:=bm hE.grph.toEOk h;omega,h⟩⟩
theorem pa:(gB f).Nodup:=List.Nodup.sublist List.filter_sublist List.nodup_range
theorem iB (hE:bk f) {x:Int} (hx:x∈eh f):∃k:Nat,bO f x=k∧(gB f)[k]?=some x.toNat∧k<(gB f).length:=by
 have h0:=bm hE.grph.toEOk hx
 have hm:x.toNat∈gB f:=(l3 hE).2 (by rwa [Int.toNat_of_nonneg h0.1])
 have hl:=List.idxOf_lt_length_of_mem hm
 refine ⟨(gB f).idxOf x.toNat,by unfold bO;rw[if_pos hx],?_,hl⟩
 rw[q2 hl,List.getElem_idxOf hl]
theorem nX (hE:bk f) {k:Nat} {b:Nat} (hk:(gB f)[k]?=some b):bO f b=k:=by
 have hm:(b:Int)∈eh f:=(l3 hE).1 (qb hk)
 obtain ⟨j,hj,h2,_⟩:=iB hE hm
 rw[hj]
 have h3:(gB f)[j]?=some b:=h2
 obtain ⟨hk1,hk2⟩:=List.getElem?_eq_some_iff.1 hk
 obtain ⟨hj1,hj2⟩:=List.getElem?_eq_some_iff.1 h3
 have:=(List.getElem_inj pa (h₀:=hj1) (h₁:=hk1)).1 (by rw[hj2,hk2])
 rw[this]
theorem r9 (hE:bk f) {x y:Int} (hx:x∈eh f) (hy:y∈eh f) (h:bO f x=bO f y):x=y:=by
 obtain ⟨k,hk,h2,_⟩:=iB hE hx
 obtain ⟨j,hj,h3,_⟩:=iB hE hy
 have a:=bm hE.grph.toEOk hx
 have b:=bm hE.grph.toEOk hy
 have:k=j:=by omega
 rw[this,h3] at h2
 have:=Option.some.inj h2
 omega
theorem sb (hE:bk f) {x:Int}:0≤bO f x↔x∈eh f:=by
 by_cases h:x∈eh f
 ·obtain ⟨k,hk,_⟩:=iB hE h
  exact ⟨fun _=>h,fun _=>by omega⟩
 ·exact ⟨fun k=>by unfold bO at k;rw[if_neg h] at k;omega,fun k=>absurd k h⟩
theorem pd (hE:bk f):(0:Int)∈eh f:=qb (qn hE.grph.toEOk)
theorem sd (hE:bk f):(gB f)[0]?=some 0:=by
 have hz:=pd hE
 obtain ⟨n,hn⟩:∃n,f.blocks.length=n+1:=⟨f.blocks.length - 1,by have:=hE.pos;omega⟩
 unfold gB
 rw[hn,List.range_succ_eq_map,List.filter_cons,if_pos (by simpa using hz)];rfl
theorem xG (hE:bk f):bO f 0=0:=nX hE (sd hE)
theorem eQ {k:Nat} {b:az} (h:f.blocks[k]?=some b):bu f k=b:=by unfold bu;rw[show ((k:Int).toNat)=k from rfl,h];rfl
theorem xH (hE:bk f) {x:Int} (hx:x∈eh f):bu (bt f) (bO f x)=eP (bO f) (cY f x.toNat) (bu f x):=by
 obtain ⟨k,hk,h2,_⟩:=iB hE hx
 have h0:=bm hE.grph.toEOk hx
 rw[hk]
 refine eQ ?_
 show ((gB f).map _)[k]?=_
 rw[qa,h2]
 show some (eP _ _ (bu f (x.toNat:Int)))=_
 rw[Int.toNat_of_nonneg h0.1]
theorem A6 (x:bB):o8 id x=x:=by unfold o8;rw[List.map_id];simp
theorem nY (hE:bk f) {x c:Int} (hx:x∈eh f) (hc:c∈au f x):c∈eh f:=(gJ hE.grph.toEOk c).2 (.step ((gJ hE.grph.toEOk x).1 hx) hc trivial)
theorem l4 (hE:bk f):bk (bt f):=by
 refine ⟨?_,fun b hb c hc=>?_⟩
 ·show 0<((gB f).map _).length
  rw[q9]
  exact (List.getElem?_eq_some_iff.1 (sd hE)).1
 ·obtain ⟨x,hx,rfl⟩:=List.mem_map.1 hb
  have hxo:=(l3 hE).1 hx
  have hr:=bm hE.grph.toEOk hxo
  have hend:∀c∈aO (bu f x).term,c∈eh f:=by rw[←fN hr.1 hr.2];exact fun c hc=>nY hE hxo hc
  have hc:c∈aO (gX id (bO f) (bu f x).term):=hc
  rw[nr fun a ha b hb=>r9 hE (hend a ha) (hend b hb)] at hc
  obtain ⟨a,ha,rfl⟩:=List.mem_map.1 hc
  obtain ⟨k,hk,_,h3⟩:=iB hE (hend a ha)
  show 0≤bO f a∧bO f a<(((gB f).map _).length:Nat)
  rw[q9,hk]
  omega
theorem se {nm:Int→Int}:∀l:List (Int × Int),(l.map fun z=>nm z.1).zip (l.map (·.2))=l.map fun z=>(nm z.1,id z.2)
 |[]=>rfl
 |z::l=>by rw[List.map_cons,List.map_cons,List.zip_cons_cons,se l];rfl
theorem wc {b:az} (hS:bw f) (hb:b∈f.blocks) {x:bB} (hx:x∈b.insts):∀v∈gz x,bf f v=true:=fun v hv=>by
 obtain ⟨_,_,h3,h4⟩:=(hS.2.2.2.2.2 b hb).2.1 x hx
 unfold gz at hv
 rcases List.mem_append.1 hv with h|h
 ·exact List.all_eq_true.1 h4 v h
 ·by_cases h0:0≤x.dst
  ·rw[if_pos h0] at h
   rw[List.mem_singleton.1 h]
   unfold iw at h3
   rw[show decide (x.dst=-1)=false from qf (by omega)] at h3
   simp only[Bool.or_eq_false_iff] at h3
   simpa using h3.2.2.1
  ·rw[if_neg h0] at h;cases h
theorem wd {b:az} (hS:bw f) (hb:b∈f.blocks):∀v∈gA b.term,bf f v=true:=fun v hv=>by
 have h:=(hS.2.2.2.2.2 b hb).2.2
 unfold gA at hv
 by_cases h0:b.term.kind=0
 ·rw[if_pos h0] at hv;cases hv
 ·rw[if_neg h0] at hv
  rw[List.mem_singleton.1 hv]
  exact gx h h0
theorem xI (hS:bw f):∀v∈f.params,bf f v=true:=fun v hv=>by
 obtain ⟨i,hi,rfl⟩:=List.getElem_of_mem hv
 have h1:=hS.1
 unfold iY at h1
 simp only[Bool.or_eq_false_iff,decide_eq_false_iff_not] at h1
 rw[hS.2.1 i hi]
 unfold bf
 simp;omega
theorem qM (hE:bk f) (hS:bw f) (hJ:eb f):o9 (·∈eh f) (fun v=>bf f v=true) (bO f) id f (bt f):=by
 have hl:(bt f).blocks.length=(gB f).length:=q9 ..
 refine { okf:=hE,okg:=l4 hE,r0:=pd hE,b0:=xG hE,rng:=fun x hx=>?_,cl:=fun x hx c hc=>nY hE hx hc,onto:=fun y h0 h1=>?_,inj:=fun x y=>r9 hE,blk:=fun x hx=>?_,par:=Z,parv:=fun v hv=>⟨xI hS v hv,Z⟩,vty:=fun v hv=>?_,vinj:=fun _ _ _ _ e=>e }
 ·obtain ⟨k,hk,_,h3⟩:=iB hE hx
  have:=bm hE.grph.toEOk hx
  exact ⟨this,by omega,by rw[hk,hl];omega⟩
 ·obtain ⟨k,rfl⟩:∃k:Nat,y=k:=⟨y.toNat,by omega⟩
  have hk:k<(gB f).length:=by omega
  exact ⟨((gB f)[k]:Nat),(l3 hE).1 (q6 hk),nX hE (q2 hk)⟩
 ·rw[xH hE hx]
  have hr:=bm hE.grph.toEOk hx
  have hxl:x.toNat<f.blocks.length:=by omega
  have ex:f.blocks[x.toNat]=bu f x:=by unfold bu;rw[q2 hxl];rfl
  have hm:bu f x∈f.blocks:=by rw[←ex];exact q6 hxl
  refine ⟨q9 ..,fun i p q hp hq=>?_,?_,fun z hz=>wc hS hm hz,Z,wd hS hm⟩
  ·have hq:((bu f x).phis.map (bS (bO f) (cY f x.toNat)))[i]?=some q:=hq
   rw[qa,hp] at hq
   have hq:=(Option.some.inj hq).symm
   subst hq
   have hpm:=qb hp
   obtain ⟨p1,p2,p3,p4,p5⟩:=(hS.2.2.2.2.2 _ hm).1 p hpm
   have hj:=hJ x.toNat hxl p (by rw[ex];exact hpm)
   refine ⟨Z,p1,?_,ff (bO f) (cY f x.toNat) p,fun z=>?_,List.filter_sublist,fun z hz=>?_,?_⟩
   ·show ((ff _ _ p).map _).length=((ff _ _ p).map _).length
    rw[q9,q9]
   ·unfold ff
    rw[List.mem_filter,qh,sb hE]
    exact and_congr_right fun hz=>⟨fun h=>h.2,fun h=>⟨hj.mem_iff.1 (List.of_mem_zip hz).1,h⟩⟩
   ·exact List.all_eq_true.1 p4 _ (List.of_mem_zip (List.mem_filter.1 hz).1).2
   ·show (((ff _ _ p).map _).zip ((ff _ _ p).map _)).Perm _
    rw[se]
  ·exact (List.map_id _).symm.trans (List.map_congr_left fun z _=>(A6 z).symm)
 ·have:=hv
  unfold bf at this
  simp only[qg,qh] at this
  exact ⟨this.1,this.1,rfl⟩
end
end
section
open Go.Proofs.Tryz
structure FrS (E:Int→List Int) (a shut:Int) (n:Nat) (out:List Bool):Prop where
 len:out.length=n
 sound:∀b:Nat,out[b]?=some true→eH E a shut b
def qN (a:Int) (out:List Bool) (shut x:Int):Prop:=x≠shut∧(x=a∨gb out x=true)
instance (a:Int) (out:List Bool) (shut x:Int):Decidable (qN a out shut x):=by unfold qN;infer_instance
def we (E:Int→List Int) (a shut:Int) (out:List Bool) (k:Nat):Prop:=∀x:Nat,x<k→qN a out shut x→∀y:Nat,(y:Int)∈E x→(y:Int)≠shut→gb out y=true
def D4 (E:Int→List Int) (a shut:Int) (out:List Bool) (x j:Nat):Prop:=qN a out shut x→∀y:Nat,y<j→(y:Int)∈E x→(y:Int)≠shut→gb out y=true
def iC (out:List Bool):Nat:=(out.filter fun b=>!b).length
theorem qO (out:List Bool) (k:Nat):gb out (k:Int)=(out[k]?).getD false:=rfl
theorem fO {out:List Bool} {k:Nat} (h:k<out.length):out[k]?=some (gb out k):=by
 rw[qO,q2 h];rfl
theorem FrS.begin (E:Int→List Int) (a shut:Int) (n:Nat):FrS E a shut n (List.replicate n false):=⟨by simp,fun b h=>by
 rw[List.getElem?_replicate] at h;split at h<;>simp at h⟩
theorem FrS.set {E:Int→List Int} {a shut:Int} {n:Nat} {out:List Bool} (h:FrS E a shut n out) {x y:Nat} (hx:qN a out shut x) (ha:a≠shut∨(x:Int)≠a) (he:(y:Int)∈E x) (hy:(y:Int)≠shut):FrS E a shut n (out.set y true):=by
 refine ⟨by rw[List.length_set];exact h.len,fun b hb=>?_⟩
 by_cases e:b=y
 ·subst e
  refine eH.step (x:=x) ?_ he hy
  rcases hx.2 with e|hg
  ·left
   refine ⟨e,?_⟩
   rw[←e];exact hx.1
  ·right
   by_cases hlt:x<out.length
   ·exact h.sound x (by rw[fO hlt,hg])
   ·rw[qO,List.getElem?_eq_none (by omega)] at hg;simp at hg
 ·rw[List.getElem?_set_ne (fun e2=>e e2.symm)] at hb;exact h.sound b hb
theorem qP {out:List Bool} {y:Nat} (hy:y<out.length) (h:gb out y=false):iC (out.set y true)+1=iC out:=fG out y (by rw[fO hy,h])
structure D5 (E:Int→List Int) (a shut:Int) (n:Nat) (o0 out:List Bool) (again:Bool):Prop extends FrS E a shut n out where
 less:iC out≤iC o0
 more:again=true→iC out<iC o0
 same:again=false→out=o0
theorem D5.hit {E:Int→List Int} {a shut:Int} {n:Nat} {o0 out:List Bool} {again:Bool} (h:D5 E a shut n o0 out again) {x y:Nat} (hx:qN a out shut x) (he:(y:Int)∈E x) (hy:(y:Int)≠shut) (hlt:y<n) (hf:gb out y=false):D5 E a shut n o0 (out.set y true) true:=by
 have h1:=qP (out:=out) (y:=y) (by rw[h.len];exact hlt) hf
 have h2:=h.less
 exact { h.toFrS.set hx (by
      by_cases e:(x:Int)=a
      ·left;rw[←e];exact hx.1
      ·exact .inr e) he hy with
     less:=by omega
     more:=fun _=>by omega
     same:=fun e=>by cases e }
theorem FrS.all {E:Int→List Int} {a shut:Int} {n:Nat} {out:List Bool} (hE:nJ E n) (ha:a=a∧0≤a∧a<n) (h:FrS E a shut n out) (hc:we E a shut out n) (b:Nat) (hb:b<n):gb out b=true↔eH E a shut b:=by
 constructor
 ·intro hg;exact h.sound b (by rw[fO (by rw[h.len];exact hb),hg])
 ·intro hf
  have:=eH.closed (out:=fun x:Int=>0≤x∧x<n∧gb out x=true) (fun x y h1 h2 h3 h4=>by
   have hxr:0≤x∧x<n:=by
    rcases h2 with e|h2
    ·rw[e];exact ha.2
    ·exact ⟨h2.1,h2.2.1⟩
   have hy:=hE.rng x hxr.1 hxr.2 y h3
   have e1:((x.toNat:Nat):Int)=x:=Int.toNat_of_nonneg hxr.1
   have e2:((y.toNat:Nat):Int)=y:=Int.toNat_of_nonneg hy.1
   refine ⟨hy.1,hy.2,?_⟩
   have:=hc x.toNat (by omega) ⟨by rw[e1];exact h1,by
    rw[e1]
    rcases h2 with e|h2
    ·exact .inl e
    ·exact .inr h2.2.2⟩ y.toNat (by rw[e1,e2];exact h3) (by rw[e2];exact h4)
   rwa [e2] at this) hf
  exact this.2.2
open Classical in
noncomputable def gC (E:Int→List Int) (n:Nat) (a shut:Int):List Bool:=(cV n).map fun b=>decide (eH E a shut b)
open Classical in
theorem FrS.eq {E:Int→List Int} {a shut:Int} {n:Nat} {out:List Bool} (hE:nJ E n) (ha:0≤a∧a<n) (h:FrS E a shut n out) (hc:we E a shut out n):out=gC E n a shut:=by
 refine List.ext_getElem (by rw[h.len];unfold gC;rw[q9,dS]) fun k h1 h2=>?_
 have hk:k<n:=by rw[h.len] at h1;exact h1
 have:=h.all hE ⟨rfl,ha⟩ hc k hk
 have e1:out[k]=gb out k:=by have:=fO h1;rw[q2 h1] at this;simpa using this
 have e2:(gC E n a shut)[k]=decide (eH E a shut k):=by
  have h3:(gC E n a shut)[k]?=some (decide (eH E a shut k)):=by unfold gC;rw[qa,g9 hk];rfl
  rw[q2 h2] at h3
  simpa using h3
 rw[e1,e2]
 by_cases hf:eH E a shut k
 ·rw[qe hf];exact this.2 hf
 ·rw[qf hf];exact Bool.eq_false_iff.2 fun e=>hf (this.1 e)
open Classical in
noncomputable def fq (E:Int→List Int) (n:Nat) (shut:Int):List Bool:=(cV n).map fun b=>decide (iN E (fun x=>x≠shut) 0 b)
open Classical in
theorem wg {E:Int→List Int} {n k:Nat} {a shut:Int} (hk:k<n):(gC E n a shut)[k]?=some (decide (eH E a shut k)):=by unfold gC;rw[qa,g9 hk];rfl
open Classical in
theorem l5 {E:Int→List Int} {n k:Nat} {shut:Int} (hk:k<n):(fq E n shut)[k]?=some (decide (iN E (fun x=>x≠shut) 0 k)):=by unfold fq;rw[qa,g9 hk];rfl
theorem gQ (E:Int→List Int) (n:Nat) (a shut:Int):(gC E n a shut).length=n:=by unfold gC;rw[q9,dS]
theorem iD (E:Int→List Int) (n:Nat) (shut:Int):(fq E n shut).length=n:=by unfold fq;rw[q9,dS]
open Classical in
theorem wh {E:Int→List Int} {n:Nat} (shut:Int):(gC E n 0 shut).set 0 (decide (shut≠0))=fq E n shut:=by
 refine List.ext_getElem? fun k=>?_
 by_cases hk:k<n
 ·rw[l5 hk]
  have hiff:=xk (E:=E) (shut:=shut) (b:=(k:Int))
  by_cases e:k=0
  ·subst e
   rw[List.getElem?_set_self (by rw[gQ];exact hk)]
   refine congrArg some (Bool.eq_iff_iff.2 ?_)
   rw[decide_eq_true_iff,decide_eq_true_iff,←hiff]
   constructor
   ·intro h;exact .inl ⟨rfl,h⟩
   ·rintro (⟨_,h⟩|⟨h,_⟩)
    ·exact h
    ·exact absurd rfl h
  ·rw[List.getElem?_set_ne (fun e2=>e e2.symm),wg hk]
   refine congrArg some (Bool.eq_iff_iff.2 ?_)
   rw[decide_eq_true_iff,decide_eq_true_iff,←hiff]
   constructor
   ·intro h;exact .inr ⟨by omega,h⟩
   ·rintro (⟨h,_⟩|⟨_,h⟩)
    ·omega
    ·exact h
 ·rw[List.getElem?_eq_none (by rw[List.length_set,gQ];omega),List.getElem?_eq_none (by rw[iD];omega)]
end
section
open Go.Proofs.Tryz
noncomputable section
end
end
section
open Go.Proofs.Tryz
abbrev iM:=Int × Int
def qQ (x:Int):Prop:=-9223372036854775808≤x∧x≤9223372036854775807
instance (x:Int):Decidable (qQ x):=by unfold qQ;infer_instance
def xJ (r:iM):Prop:=qQ r.1∧qQ r.2
def Fa:iM:=(1,0)
def D6 (lo hi:Int):iM:=if hi<lo then Fa else (lo,hi)
def Fb (a b:Int):Int:=if b<a then b else a
def Fc (a b:Int):Int:=if a<b then b else a
def D7 (a b:iM):iM:=if a.2<a.1 then D6 b.1 b.2 else if b.2<b.1 then a else (Fb a.1 b.1,Fc a.2 b.2)
def Fp (k:Nat) (x y:Int):Int:=if k=0 then x+y else if k=1 then x - y else x*y
def pe (k:Nat) (x y:Int):Prop:=qQ (Fp k x y)
instance (k:Nat) (x y:Int):Decidable (pe k x y):=by unfold pe;infer_instance
def Fq (n:Int):iM:=(n,n)
def sf (k:Nat) (a b:iM):Prop:=pe k a.1 b.1∧pe k a.1 b.2∧pe k a.2 b.1∧pe k a.2 b.2
instance (k:Nat) (a b:iM):Decidable (sf k a b):=by unfold sf;infer_instance
end
section
open Go.Proofs.Tryz
def D8 (r s:iM):Prop:=r.2<r.1∨(s.1≤r.1∧r.2≤s.2)
end
section
open Go.Proofs.Tryz
end
section
open Go.Proofs.Tryz
end
section
open Go.Proofs.Tryz
def ra (rs:List iM) (i:Nat):iM:=(rs[i]?).getD (0,0)
end
section
open Go.Proofs.Tryz
def lv (l:List iM) (v:Int):iM:=(l[v.toNat]?).getD Fa
def nrm (r:iM):Prop:=r.2<r.1→r=Fa
structure D9 (n:Nat) (rule:List iM→Int→iM) (vs:List Int):Prop where
 mono:∀l l' v,l.length=n→l'.length=n→(∀u:Int,0≤u→D8 (lv l u) (lv l' u))→(∀u:Int,0≤u→xJ (lv l u))→(∀u:Int,0≤u→xJ (lv l' u))→v∈vs→D8 (rule l v) (rule l' v)
 ok:∀l v,l.length=n→(∀u:Int,0≤u→xJ (lv l u))→v∈vs→xJ (rule l v)
 rng:∀v∈vs,0≤v∧v<n
end
section
open Go.Proofs.Tryz
section
variable {n:Nat} {rule:List iM→Int→iM} {widn:Nat→Int→Option iM} {vs:List Int} (hR:D9 n rule vs) (hw:∀i v t,widn i v=some t→xJ t)
include hR hw
end
end
section
open Go.Proofs.Tryz
end
section
open Go.Proofs.Tryz
theorem xK (E:Int→List Int) {n b:Nat} (hb:b<n) (s:Int):(fq E n s)[b]?=some (gb (fq E n s) b):=fO (by rw[iD];exact hb)
theorem xL {E:Int→List Int} {n b:Nat} (hb:b<n) (s:Int):gb (fq E n s) b=true↔iN E (fun x=>x≠s) 0 b:=by
 rw[qO,l5 hb];simp
end
section
open Go.Proofs.Tryz
end
section
open Go.Proofs.Tryz
def CL (q:Int):Prop:=21≤q∧q≤23
instance (q:Int):Decidable (CL q):=by unfold CL;infer_instance
end
section
open Go.Proofs.Tryz
end
section
open Go.Proofs.Tryz
section
variable {n:Nat} {rule:List iM→Int→iM} {vs:List Int} {phi:Int→Prop} {rank:Int→Nat}
end
section
variable {n:Nat} {rule:List iM→Int→iM} {vs:List Int} {phi:Int→Prop} {t:Int→iM}
end
end
section
open Go.Proofs.Tryz
def A7 (h:iM × Bool) (n:Int) (fits:Bool) (e:Int):iM × Bool:=(D7 h.1 (Fq (if fits then n else e)),h.2||!fits)
def h4 (h:iM × Bool) (a b:iM) (n:Int→Int→Int) (fit:Int→Int→Bool) (e:Int→Int→Int):iM × Bool:=
 A7 (A7 (A7 (A7 h (n a.1 b.1) (fit a.1 b.1) (e a.1 b.1)) (n a.1 b.2) (fit a.1 b.2) (e a.1 b.2)) (n a.2 b.1) (fit a.2 b.1) (e a.2 b.1)) (n a.2 b.2) (fit a.2 b.2) (e a.2 b.2)
instance (k:Nat) (x y:Int):Decidable (pe k x y):=by unfold pe qQ;infer_instance
instance (k:Nat) (a b:iM):Decidable (sf k a b):=by unfold sf;infer_instance
end
section
open Go.Proofs.Tryz
open Go.Proofs
end
section
open Go.Proofs.Tryz
open Go.Proofs
end
section
open Go.Proofs.Tryz
structure GS where
 ints:List Int
 bools:List Bool
 arrs:List Int
 arrays:List (List Int)
 blk:Int
 pc:Nat
 en:Int
 val:Int
 tr:Int
 trace:List Int
 st:Nat
 ck:Nat→Nat
 ended:Bool
def vi (l:List Int) (v:Int):Int:=(l[v.toNat]?).getD 0
def Fr (s:GS) (d v:Int):GS:={ s with ints:=s.ints.set d.toNat v }
def Fs (s:GS) (d:Int) (v:Bool):GS:={ s with bools:=s.bools.set d.toNat v }
def Ft (s:GS) (d v:Int):GS:={ s with arrs:=s.arrs.set d.toNat v }
def xM (p:bM) (b:Int):Int:=((p.from_.zip p.args).find? fun q=>decide (q.1=b)).elim (-1) (·.2)
def assign (s t:GS) (p:bM):GS:=Ft (Fs (Fr t p.dst (vi s.ints (xM p s.blk))) p.dst (gb s.bools (xM p s.blk))) p.dst (vi s.arrs (xM p s.blk))
theorem Dc {f:ae} {v:Int} (h:bf f v=true):v<f.vars.length∧0≤v:=by
 unfold bf at h;simp at h;exact ⟨h.2,h.1⟩
theorem Dd:∀j:Nat,j<27→(bd (j:Int)).length=([0,1,2,2,2,2,2,2,2,2,1,2,1,2,3,1,0,1,2,1,1,2,2,2,1,2,2][j]?).getD 0:=by decide
theorem o3.argc {f:ae} {x:bB} (h:o3 f x):x.args.length=([0,1,2,2,2,2,2,2,2,2,1,2,1,2,3,1,0,1,2,1,1,2,2,2,1,2,2][x.op.toNat]?).getD 0:=by
 have h1:=h.op
 obtain ⟨j,e⟩:∃j:Nat,x.op=(j:Int):=⟨x.op.toNat,by omega⟩
 rw[h.len,e,Dd j (by omega),Int.toNat_natCast]
end
end Go.Proofs.YtjpnhkmfhlnpcaaGreatDoor
