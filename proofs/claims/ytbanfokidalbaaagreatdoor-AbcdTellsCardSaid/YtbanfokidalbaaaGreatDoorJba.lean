/- The table of powers of ten, out of what a call is handed. No conditions. -/
import Derived.Test.YtbanfokidalbaaaGreatDoorJw
import Derived.Test.YtbanfokidalbaaaGreatDoorJz
import Derived.Test.YtbanfokidalbaaaGreatDoorJh
import Derived.Test.YtbanfokidalbaaaGreatDoorJd
import Derived.Test.YtbanfokidalbaaaGreatDoorJe
import Derived.Lib.LaidRTab
import Derived.Test.YtbanfokidalbaaaGreatDoorRows
import Derived.Test.YtbanfokidalbaaaGreatDoorChecked
import Derived.ProofKit
import Derived.JoinedOf
import Derived.Test.YtbanfokidalbaaaGreatDoorJg
set_option linter.unusedVariables false
set_option linter.unusedSimpArgs false
set_option linter.unusedSectionVars false
namespace Go.Proofs.YtbanfokidalbaaaGreatDoor
section
open Go.Proofs.Tryz
open Go.Proofs Go.Lib Go.Shelf Go.RowKit
variable {E:World}
set_option maxRecDepth 20000
theorem oz (A:List b7) (hl:A.length≤100000):aJ prog E 9 [.fro 2 ((A.map mL).map ng),.fro 2 (A.map bg)] (.bool true):=by
 refine zo func9 Z (by decide) Z<|ah<|ac Z<|z6<|zc<|ah<|aU Z<|ak Zi Z<|aU Z<|ak Zr Z<|aH Z Z<|z6<|yj Z (by simp)<|zd<|zc<|ah<|aU Z<|ak Zi Z<|aa Z<|z6<|zh<|ya (γ:=Nat) [0,1,12] (fun k=>[(13,.int .i64 k)]) (fun k=>[]) (fun k=>k≤A.length) (fun k=>A.length - k) 0 aG aC (qt _) ?_
 rintro k hk
 refine ah<|aw Z Z<|z6<|zc<|zp Z (fun ck=>?_) (fun ck=>?_)
 ·have hk2:k<A.length:=by simp at ck;omega
  obtain ⟨a,ha⟩:∃a,A[k]=a:=⟨_,rfl⟩
  have hga:A[k]?=some a:=by rw[qq hk2,ha]
  obtain ⟨b,hb⟩:∃b,mL a=b:=⟨_,rfl⟩
  have hgb:(A.map mL)[k]?=some b:=by rw[qy,hga,←hb];rfl
  have hb1:b.1=decide (a.1=1):=by rw[←hb];rfl
  have hb2:b.2=if a.1=1 then a.2 else 0:=by rw[←hb];rfl
  refine zd<|zc<|zh<|ah<|aa Z<|ay Z<|z6<|zc<|yf (γ:=Bool) [0,1,12,13] (fun u=>[(63,.bool u)]) (fun u=>[]) (fun u=>u=false) ?_ (fun _ _ h=>h) ?_
  ·by_cases h1:a.1=1
   ·rw[w7 h1] at hb1
    rw[if_pos h1] at hb2
    refine y7 (fun j=>false) (by kernel_rfl) Z (zn (.rest _))<|au 0 Z (kl Z)<|au 1 Z (cG Z)<|au 2 Z (bD k Zi Yw Z Z Z hgb)<|au 3 Z (cA Zy Z Z5 Z Z)<|au 4 Z (yo (c:=.bool _) Zm Z)<|au 5 Z (kl Z)<|au 6 Z (cG Z)<|au 7 Z (bD k Zr Z0 Z Z Z hga)<|au 8 Z (cA Z8 Z ja Z Z)<|au 9 Z (du jc Z)<|au 10 Z (Gv.eqlI Z Z)<|au 11 Z (Gv.neqB Zv Z Z)<|au 12 Z (l5 Z)<|q4 (s:=28) Z (fun c1=>?_) (fun c1=>?_)
    ·refine bi 13 Z Z Z c1<|bi 14 Z Z Z c1<|bi 15 Z Z Z c1<|bi 16 Z Z Z c1<|bi 17 Z Z Z c1<|bi 18 Z Z Z c1<|q7 (i:=19) Z Z Z (by kernel_rfl) (by kernel_rfl) (by kernel_rfl) (by kernel_rfl) (by kernel_rfl) (by kernel_rfl)<|q7 (i:=20) Z Z Z (by kernel_rfl) (by kernel_rfl) (by kernel_rfl) (by kernel_rfl) (by kernel_rfl) (by kernel_rfl)<|q7 (i:=21) Z Z Z (by kernel_rfl) (by kernel_rfl) (by kernel_rfl) (by kernel_rfl) (by kernel_rfl) (by kernel_rfl)<|q7 (i:=22) Z Z Z (by kernel_rfl) (by kernel_rfl) (by kernel_rfl) (by kernel_rfl) (by kernel_rfl) (by kernel_rfl)<|q7 (i:=23) Z Z Z (by kernel_rfl) (by kernel_rfl) (by kernel_rfl) (by kernel_rfl) (by kernel_rfl) (by kernel_rfl)<|q7 (i:=24) Z Z Z (by kernel_rfl) (by kernel_rfl) (by kernel_rfl) (by kernel_rfl) (by kernel_rfl) (by kernel_rfl)<|aV 25 Z<|zb Z Z<|z6<|aV 26 Z<|zb Z Z<|z6<|aV 27 Z<|zb Z Z<|z6<|aV 28 Z<|zb Z Z<|z6<|aV 29 Z<|zb Z Z<|z6<|bi 30 Z Z Z c1<|au 31 Z (oB Z c1 Z)<|au 32 Z (l5 Z)<|bi 33 Z Z Z Z<|bi 34 Z Z Z Z<|bi 35 Z Z Z Z<|bi 36 Z Z Z Z<|bi 37 Z Z Z Z<|bi 38 Z Z Z Z<|bi 39 Z Z Z Z<|q7 (i:=40) Z Z Z (by kernel_rfl) (by kernel_rfl) (by kernel_rfl) (by kernel_rfl) (by kernel_rfl) (by kernel_rfl)<|aV 41 Z<|zb Z Z<|z6 ?_
     refine aV 42 Z<|zb Z Z<|z6<|aV 43 Z<|zb Z Z<|z6<|aV 44 Z<|zb Z Z<|z6<|aV 45 Z<|zb Z Z<|z6<|bi 46 Z Z Z Z<|au 47 Z (oB Z Z Z)<|bY ?_
     exact ⟨_,e7,aG,aC,by clear hgb hga;simp_all⟩
    ·refine bB 13 Z Z Z c1 (kl Z)<|bB 14 Z Z Z c1 (cG Z)<|bB 15 Z Z Z c1 (bD k Zi Yw Z Z Z hgb)<|bB 16 Z Z Z c1 (cA Zy Z Z5 Z Z)<|bB 17 Z Z Z c1 (yo (c:=.bool _) Zm Z)<|bB 18 Z Z Z c1 (l5 Z)<|q4 (s:=34) Z (fun c2=>?_) (fun c2=>?_)
     ·refine bB 19 Z Z Z c2 (kl Z)<|bB 20 Z Z Z c2 (cG Z)<|bB 21 Z Z Z c2 (bD k Zi Yw Z Z Z hgb)<|bB 22 Z Z Z c2 (cA Zy Z ji Z Z)<|bB 23 Z Z Z c2 (du jp Z)<|bB 24 Z Z Z c2 (kl Z)<|bB 25 Z Z Z c2 (cG Z)<|bB 26 Z Z Z c2 (bD k Zr Z0 Z Z Z hga)<|bB 27 Z Z Z c2 (cA Z8 Z ji Z Z)<|bB 28 Z Z Z c2 (du jp Z)<|bB 29 Z Z Z c2 (qn Z Z)<|bB 30 Z Z Z c1 (oB Z c2 Z)<|au 31 Z (kY Z c1 Z)<|au 32 Z (l5 Z)<|q4 (s:=48) Z (fun c3=>?_) (fun c3=>?_)
      ·refine bi 33 Z Z Z c3<|bi 34 Z Z Z c3<|bi 35 Z Z Z c3<|bi 36 Z Z Z c3<|bi 37 Z Z Z c3<|bi 38 Z Z Z c3<|bi 39 Z Z Z c3<|q7 (i:=40) Z Z Z (by kernel_rfl) (by kernel_rfl) (by kernel_rfl) (by kernel_rfl) (by kernel_rfl) (by kernel_rfl)<|aV 41 Z<|zb Z Z<|z6<|aV 42 Z<|zb Z Z<|z6<|aV 43 Z<|zb Z Z<|z6<|aV 44 Z<|zb Z Z<|z6<|aV 45 Z<|zb Z Z<|z6<|bi 46 Z Z Z c3<|au 47 Z (oB Z c3 Z)<|bY ?_
       exact ⟨_,e7,aG,aC,by clear hgb hga;simp_all⟩
      ·refine bB 33 Z Z Z c3 (kl Z)<|bB 34 Z Z Z c3 (cG Z)<|bB 35 Z Z Z c3 (bD k Zi Yw Z Z Z hgb)<|bB 36 Z Z Z c3 (cA Zy Z Z5 Z Z)<|bB 37 Z Z Z c3 (yo (c:=.bool _) Zm Z)<|bB 38 Z Z Z c3 (Gv.not Z)<|bB 39 Z Z Z c3 (l5 Z)<|q4 (s:=55) Z (fun c4=>?_) (fun c4=>?_)
       ·refine bB 40 Z Z Z c4 (kl Z)<|bB 41 Z Z Z c4 (cG Z)<|bB 42 Z Z Z c4 (bD k Zi Yw Z Z Z hgb)<|bB 43 Z Z Z c4 (cA Zy Z ji Z Z)<|bB 44 Z Z Z c4 (du jp Z)<|bB 45 Z Z Z c4 (qn Z Z)<|bB 46 Z Z Z c3 (oB Z c4 Z)<|au 47 Z (kY Z c3 Z)<|bY ?_
        exact ⟨_,e7,aG,aC,by clear hgb hga;simp_all⟩
       ·refine bi 40 Z Z Z c4<|bi 41 Z Z Z c4<|bi 42 Z Z Z c4<|bi 43 Z Z Z c4<|bi 44 Z Z Z c4<|bi 45 Z Z Z c4<|bB 46 Z Z Z c3 (kY Z c4 Z)<|au 47 Z (kY Z c3 Z)<|bY ?_
        exact ⟨_,e7,aG,aC,by clear hgb hga;simp_all⟩
     ·refine bi 19 Z Z Z c2<|bi 20 Z Z Z c2<|bi 21 Z Z Z c2<|bi 22 Z Z Z c2<|bi 23 Z Z Z c2<|bi 24 Z Z Z c2<|bi 25 Z Z Z c2<|bi 26 Z Z Z c2<|bi 27 Z Z Z c2<|bi 28 Z Z Z c2<|bi 29 Z Z Z c2<|bB 30 Z Z Z c1 (kY Z c2 Z)<|au 31 Z (kY Z c1 Z)<|au 32 Z (l5 Z)<|bB 33 Z Z Z Z (kl Z)<|bB 34 Z Z Z Z (cG Z)<|bB 35 Z Z Z Z (bD k Zi Yw Z Z Z hgb)<|bB 36 Z Z Z Z (cA Zy Z Z5 Z Z)<|bB 37 Z Z Z Z (yo (c:=.bool _) Zm Z)<|bB 38 Z Z Z Z (Gv.not Z)<|bB 39 Z Z Z Z (l5 Z)<|q4 (s:=55) Z (fun c5=>?_) (fun c5=>?_)
      ·refine bB 40 Z Z Z c5 (kl Z)<|bB 41 Z Z Z c5 (cG Z)<|bB 42 Z Z Z c5 (bD k Zi Yw Z Z Z hgb)<|bB 43 Z Z Z c5 (cA Zy Z ji Z Z)<|bB 44 Z Z Z c5 (du jp Z)<|bB 45 Z Z Z c5 (qn Z Z)<|bB 46 Z Z Z Z (oB Z c5 Z)<|au 47 Z (kY Z Z Z)<|bY ?_
       exact ⟨_,e7,aG,aC,by clear hgb hga;simp_all⟩
      ·refine bi 40 Z Z Z c5<|bi 41 Z Z Z c5<|bi 42 Z Z Z c5<|bi 43 Z Z Z c5<|bi 44 Z Z Z c5<|bi 45 Z Z Z c5<|bB 46 Z Z Z Z (kY Z c5 Z)<|au 47 Z (kY Z Z Z)<|bY ?_
       exact ⟨_,e7,aG,aC,by clear hgb hga;simp_all⟩
   ·rw[w8 h1] at hb1
    rw[if_neg h1] at hb2
    refine y7 (fun j=>false) (by kernel_rfl) Z (zn (.rest _))<|au 0 Z (kl Z)<|au 1 Z (cG Z)<|au 2 Z (bD k Zi Yw Z Z Z hgb)<|au 3 Z (cA Zy Z Z5 Z Z)<|au 4 Z (yo (c:=.bool _) Zm Z)<|au 5 Z (kl Z)<|au 6 Z (cG Z)<|au 7 Z (bD k Zr Z0 Z Z Z hga)<|au 8 Z (cA Z8 Z ja Z Z)<|au 9 Z (du jc Z)<|au 10 Z (Gv.eqlI Z Z)<|au 11 Z (Gv.neqB Zv Z Z)<|au 12 Z (l5 Z)<|q4 (s:=28) Z (fun c6=>?_) (fun c6=>?_)
    ·refine bi 13 Z Z Z c6<|bi 14 Z Z Z c6<|bi 15 Z Z Z c6<|bi 16 Z Z Z c6<|bi 17 Z Z Z c6<|bi 18 Z Z Z c6<|q7 (i:=19) Z Z Z (by kernel_rfl) (by kernel_rfl) (by kernel_rfl) (by kernel_rfl) (by kernel_rfl) (by kernel_rfl)<|q7 (i:=20) Z Z Z (by kernel_rfl) (by kernel_rfl) (by kernel_rfl) (by kernel_rfl) (by kernel_rfl) (by kernel_rfl)<|q7 (i:=21) Z Z Z (by kernel_rfl) (by kernel_rfl) (by kernel_rfl) (by kernel_rfl) (by kernel_rfl) (by kernel_rfl)<|q7 (i:=22) Z Z Z (by kernel_rfl) (by kernel_rfl) (by kernel_rfl) (by kernel_rfl) (by kernel_rfl) (by kernel_rfl)<|q7 (i:=23) Z Z Z (by kernel_rfl) (by kernel_rfl) (by kernel_rfl) (by kernel_rfl) (by kernel_rfl) (by kernel_rfl)<|q7 (i:=24) Z Z Z (by kernel_rfl) (by kernel_rfl) (by kernel_rfl) (by kernel_rfl) (by kernel_rfl) (by kernel_rfl)<|aV 25 Z<|zb Z Z<|z6<|aV 26 Z<|zb Z Z<|z6<|aV 27 Z<|zb Z Z<|z6<|aV 28 Z<|zb Z Z<|z6<|aV 29 Z<|zb Z Z<|z6<|bi 30 Z Z Z c6<|au 31 Z (oB Z c6 Z)<|au 32 Z (l5 Z)<|bi 33 Z Z Z Z<|bi 34 Z Z Z Z<|bi 35 Z Z Z Z<|bi 36 Z Z Z Z<|bi 37 Z Z Z Z<|bi 38 Z Z Z Z<|bi 39 Z Z Z Z<|q7 (i:=40) Z Z Z (by kernel_rfl) (by kernel_rfl) (by kernel_rfl) (by kernel_rfl) (by kernel_rfl) (by kernel_rfl)<|aV 41 Z<|zb Z Z<|z6 ?_
     refine aV 42 Z<|zb Z Z<|z6<|aV 43 Z<|zb Z Z<|z6<|aV 44 Z<|zb Z Z<|z6<|aV 45 Z<|zb Z Z<|z6<|bi 46 Z Z Z Z<|au 47 Z (oB Z Z Z)<|bY ?_
     exact ⟨_,e7,aG,aC,by clear hgb hga;simp_all⟩
    ·refine bB 13 Z Z Z c6 (kl Z)<|bB 14 Z Z Z c6 (cG Z)<|bB 15 Z Z Z c6 (bD k Zi Yw Z Z Z hgb)<|bB 16 Z Z Z c6 (cA Zy Z Z5 Z Z)<|bB 17 Z Z Z c6 (yo (c:=.bool _) Zm Z)<|bB 18 Z Z Z c6 (l5 Z)<|q4 (s:=34) Z (fun c7=>?_) (fun c7=>?_)
     ·refine bB 19 Z Z Z c7 (kl Z)<|bB 20 Z Z Z c7 (cG Z)<|bB 21 Z Z Z c7 (bD k Zi Yw Z Z Z hgb)<|bB 22 Z Z Z c7 (cA Zy Z ji Z Z)<|bB 23 Z Z Z c7 (du jp Z)<|bB 24 Z Z Z c7 (kl Z)<|bB 25 Z Z Z c7 (cG Z)<|bB 26 Z Z Z c7 (bD k Zr Z0 Z Z Z hga)<|bB 27 Z Z Z c7 (cA Z8 Z ji Z Z)<|bB 28 Z Z Z c7 (du jp Z)<|bB 29 Z Z Z c7 (qn Z Z)<|bB 30 Z Z Z c6 (oB Z c7 Z)<|au 31 Z (kY Z c6 Z)<|au 32 Z (l5 Z)<|q4 (s:=48) Z (fun c8=>?_) (fun c8=>?_)
      ·refine bi 33 Z Z Z c8<|bi 34 Z Z Z c8<|bi 35 Z Z Z c8<|bi 36 Z Z Z c8<|bi 37 Z Z Z c8<|bi 38 Z Z Z c8<|bi 39 Z Z Z c8<|q7 (i:=40) Z Z Z (by kernel_rfl) (by kernel_rfl) (by kernel_rfl) (by kernel_rfl) (by kernel_rfl) (by kernel_rfl)<|aV 41 Z<|zb Z Z<|z6<|aV 42 Z<|zb Z Z<|z6<|aV 43 Z<|zb Z Z<|z6<|aV 44 Z<|zb Z Z<|z6<|aV 45 Z<|zb Z Z<|z6<|bi 46 Z Z Z c8<|au 47 Z (oB Z c8 Z)<|bY ?_
       exact ⟨_,e7,aG,aC,by clear hgb hga;simp_all⟩
      ·refine bB 33 Z Z Z c8 (kl Z)<|bB 34 Z Z Z c8 (cG Z)<|bB 35 Z Z Z c8 (bD k Zi Yw Z Z Z hgb)<|bB 36 Z Z Z c8 (cA Zy Z Z5 Z Z)<|bB 37 Z Z Z c8 (yo (c:=.bool _) Zm Z)<|bB 38 Z Z Z c8 (Gv.not Z)<|bB 39 Z Z Z c8 (l5 Z)<|q4 (s:=55) Z (fun c9=>?_) (fun c9=>?_)
       ·refine bB 40 Z Z Z c9 (kl Z)<|bB 41 Z Z Z c9 (cG Z)<|bB 42 Z Z Z c9 (bD k Zi Yw Z Z Z hgb)<|bB 43 Z Z Z c9 (cA Zy Z ji Z Z)<|bB 44 Z Z Z c9 (du jp Z)<|bB 45 Z Z Z c9 (qn Z Z)<|bB 46 Z Z Z c8 (oB Z c9 Z)<|au 47 Z (kY Z c8 Z)<|bY ?_
        exact ⟨_,e7,aG,aC,by clear hgb hga;simp_all⟩
       ·refine bi 40 Z Z Z c9<|bi 41 Z Z Z c9<|bi 42 Z Z Z c9<|bi 43 Z Z Z c9<|bi 44 Z Z Z c9<|bi 45 Z Z Z c9<|bB 46 Z Z Z c8 (kY Z c9 Z)<|au 47 Z (kY Z c8 Z)<|bY ?_
        exact ⟨_,e7,aG,aC,by clear hgb hga;simp_all⟩
     ·refine bi 19 Z Z Z c7<|bi 20 Z Z Z c7<|bi 21 Z Z Z c7<|bi 22 Z Z Z c7<|bi 23 Z Z Z c7<|bi 24 Z Z Z c7<|bi 25 Z Z Z c7<|bi 26 Z Z Z c7<|bi 27 Z Z Z c7<|bi 28 Z Z Z c7<|bi 29 Z Z Z c7<|bB 30 Z Z Z c6 (kY Z c7 Z)<|au 31 Z (kY Z c6 Z)<|au 32 Z (l5 Z)<|bB 33 Z Z Z Z (kl Z)<|bB 34 Z Z Z Z (cG Z)<|bB 35 Z Z Z Z (bD k Zi Yw Z Z Z hgb)<|bB 36 Z Z Z Z (cA Zy Z Z5 Z Z)<|bB 37 Z Z Z Z (yo (c:=.bool _) Zm Z)<|bB 38 Z Z Z Z (Gv.not Z)<|bB 39 Z Z Z Z (l5 Z)<|q4 (s:=55) Z (fun c10=>?_) (fun c10=>?_)
      ·refine bB 40 Z Z Z c10 (kl Z)<|bB 41 Z Z Z c10 (cG Z)<|bB 42 Z Z Z c10 (bD k Zi Yw Z Z Z hgb)<|bB 43 Z Z Z c10 (cA Zy Z ji Z Z)<|bB 44 Z Z Z c10 (du jp Z)<|bB 45 Z Z Z c10 (qn Z Z)<|bB 46 Z Z Z Z (oB Z c10 Z)<|au 47 Z (kY Z Z Z)<|bY ?_
       exact ⟨_,e7,aG,aC,by clear hgb hga;simp_all⟩
      ·refine bi 40 Z Z Z c10<|bi 41 Z Z Z c10<|bi 42 Z Z Z c10<|bi 43 Z Z Z c10<|bi 44 Z Z Z c10<|bi 45 Z Z Z c10<|bB 46 Z Z Z Z (kY Z c10 Z)<|au 47 Z (kY Z Z Z)<|bY ?_
       exact ⟨_,e7,aG,aC,by clear hgb hga;simp_all⟩
  ·rintro u hu
   refine yj Z hu<|zd<|aM<|aA Z Z<|aa Z<|z6 ?_
   exact ⟨k+1,dC,aG,aC,hk2,by omega⟩
 ·refine y9<|ah<|ac Z<|z6<|zg<|zk (x:=.bool _) Z ?_
  rfl
set_option maxHeartbeats 4000000 in
theorem sD (f:ad) (hw:tH f) (hN:∀b∈f.blocks,∀x∈b.insts,aP x.num) (hL:aE E) (hP:b8 E) (l:List be) (ho:∀r∈l,cY r) (hl:l.length≤9223372036854775807) (s:Int) :
  aJ prog E 3 [.agg (bL f),.fro 2 (l.map bg),.int .i64 s] (.bool true):=by
 have hlv:=vw (E:=E) hL hP
 refine zo func3 Z (by decide) Z<|ah<|yb (cs:=_) Z Z Z<|ac Z<|z6<|zc<|ah<|ze (hlv) Z<|aF Z<|ai Z<|z8 Z Z Z<|ab jm jh Z Z<|z8 Z Z Z<|ze (tR f hw) Z<|z8 Z Z Z<|aF Z<|aq Z Z Z<|ai Z<|zm (s:=17) Z (fun cf=>?_) (fun cf=>?_)
 ·refine z7 Z Z cf<|z7 Z Z cf<|z7 Z Z cf<|ap Z cf Z<|z6<|yt Z Z<|ah<|ze (hlv) Z<|ac Z<|z6<|zg<|zk (x:=.bool _) Z ?_
  rfl
 ·have hfew:Aw f=true:=by cases h:Aw f;rw[h] at cf;simp at cf;rfl
  have hsm:=((nw f).1 hfew).small
  have hvn:=hsm.1
  refine z8 Z Z cf<|aU Z<|z8 Z Z cf<|ak Yn Z<|z8 Z Z cf<|aO Z Z<|aq Z cf Z<|z6<|zt Z (fun cl=>?_) (fun cl=>?_)
  ·refine ah<|ze (hlv) Z<|ac Z<|z6<|zg<|zk (x:=.bool _) Z ?_
   rfl
  ·have hl2:l.length≤120:=by have h:¬(120:Int)<l.length:=(by simpa using cl);omega
   obtain ⟨Ru,hug,hub⟩:∃R,(EJ f l s→∃K,oE (eJ f l true s) K∧K≤4611686018427387904∧R=Em (eJ f l true s) K)∧(¬EJ f l s→R=[]):=by
    by_cases c:EJ f l s
    ·obtain ⟨K,h1,h2⟩:=rR (jX hsm c.1) c.1 l true ⟨c.2.2.1,c.2.2.2.1⟩
     exact ⟨_,fun _=>⟨K,h1,h2,rfl⟩,fun n=>absurd c n⟩
    ·exact ⟨[],fun n=>absurd n c,fun _=>rfl⟩
   obtain ⟨Rl,hlg,hlb⟩:∃R,(I8 f l→∃K,oE (eJ f l false f.vars.length) K∧K≤4611686018427387904∧R=Em (eJ f l false f.vars.length) K)∧(¬I8 f l→R=[]):=by
    by_cases c:I8 f l
    ·obtain ⟨K,h1,h2⟩:=rR (s:=(f.vars.length:Int)) (jX hsm c.1) c.1 l false ⟨by omega,by omega⟩
     exact ⟨_,fun _=>⟨K,h1,h2,rfl⟩,fun n=>absurd c n⟩
    ·exact ⟨[],fun n=>absurd n c,fun _=>rfl⟩
   refine zd<|zc<|y7 (fun j=>false) (by kernel_rfl) Z (zn (.rest _))<|au 0 Z (yk jm jh Z Z)<|au 1 Z (kl Z)<|au 2 Z (cG Z)<|au 4 Z (yk jm jh Z Z)<|au 5 Z (kl Z)<|aV 3 Z<|ze (xf f hsm hL hN l ho hl s Ru hug hub) Z<|z6<|aV 6 Z<|ze (xg f hsm hL hN l ho hl Rl hlg hlb) Z<|z6<|au 7 Z (iw Z)<|au 8 Z (iw Z)<|bY<|zc<|zc<|yf (γ:=Bool) [1,2,3,7,8] (fun u=>[(40,.bool u)]) (fun u=>[]) (fun u=>u=!decide (I8 f l)) ?_ (fun _ _ h=>h) ?_
   ·refine aM<|ab jm jh Z Z<|ze (rK f hw hL) Z<|aF Z<|ai Z<|zm (s:=33) Z (fun cs=>?_) (fun cs=>?_)
    ·have hs:(aR f&&bG f)=false:=by have h:gW f=false:=(by cases h:gW f;rfl;rw[h] at cs;simp at cs);unfold gW at h;rw[hfew] at h;exact h
     refine z7 Z Z cs<|z7 Z Z cs<|z7 Z Z cs<|z7 Z Z cs<|z7 Z Z cs<|z7 Z Z cs<|ap Z cs Z<|z6 ?_
     exact ⟨_,iT,aG,aC,by rw[w8 (fun h:I8 f l=>by have h1:=h.1;rw[hs] at h1;cases h1)];rfl⟩
    ·have hs:(aR f&&bG f)=true:=by have h:gW f=true:=(by cases h:gW f;rw[h] at cs;simp at cs;rfl);unfold gW at h;rw[hfew] at h;exact h
     refine z8 Z Z cs<|aU Z<|z8 Z Z cs<|ak Yn Z<|z8 Z Z cs<|ae je Z Zg Z Z<|z8 Z Z cs<|aI Zp Z<|z8 Z Z cs<|ak js Z<|z8 Z Z cs<|aH Z Z<|aq Z cs Z<|z6 ?_
     exact ⟨_,iT,aG,aC,by congr 1;exact decide_eq_decide.2 ⟨fun h=>⟨hs,by omega⟩,fun h=>by have:=h.2;omega⟩⟩
   ·rintro u hu2
    subst hu2
    refine zt Z (fun c=>?_) (fun c=>?_)
    ·have hc:=eB c
     rw[hub (fun h=>hc ⟨h.1,h.2.1⟩),hlb hc]
     refine ah<|aU Z<|ak Zi Z<|aU Z<|ak Zi Z<|za (Gv.add Z Z (by unfold nN;simp))<|aj Z Z<|ac Z<|z6<|zg<|zk (x:=.bool _) Z ?_
     rfl
    ·have hc:=eF c
     obtain ⟨hs,hll⟩:=id hc
     have hF:=jX hsm hs
     obtain ⟨K,hK,hKb,hRl⟩:=hlg hc
     have hnn:(0:Int)≤f.vars.length∧(f.vars.length:Int)≤f.vars.length:=⟨by omega,by omega⟩
     have hrl:=jZ (E:=E) f hF hs hN l ho hll false f.vars.length hnn K hK hKb
     rw[show JT false=-1 from rfl] at hrl
     have hel:(n6 (eJ f l false f.vars.length) K).length=f.vars.length+1:=(ky (S:=eJ f l false f.vars.length) hnn.1 (ll hnn.1 hnn.2 (K+1)) 2).len
     have hsame:=oz (E:=E) (n6 (eJ f l false f.vars.length) K) (by omega)
     rw[show (n6 (eJ f l false f.vars.length) K).map mL=Rl from hRl.symm] at hsame
     refine zd<|ah<|ae je Z Zg Z Z<|aI Zp Z<|ak js Z<|ay Z<|z6<|zc<|zc<|y7 (fun j=>false) (by kernel_rfl) Z (zn (.rest _))<|au 0 Z (kl Z)<|au 1 Z (yk jm jh Z Z)<|au 2 Z (kl Z)<|au 4 Z (cG Z)<|aV 3 Z<|ze (tS l (by omega)) Z<|z6<|aV 5 Z<|ze (hrl) Z<|z6<|aV 6 Z<|ze (hsame) Z<|z6<|au 7 Z (Gv.not Z)<|bY<|yj Z (by rfl)<|zd<|zc<|zc<|yf (γ:=Bool) [1,2,3,7] (fun u=>[(78,.bool u)]) (fun u=>[]) (fun u=>u=!decide (EJ f l s)) ?_ (fun _ _ h=>h) ?_
     ·refine aM<|aa Z<|aw Z Z<|ai Z<|zm (s:=60) Z (fun c1=>?_) (fun c1=>?_)
      ·have h1:s<0:=wb c1
       refine z7 Z Z c1<|z7 Z Z c1<|z7 Z Z c1<|ap Z c1 Z<|ai Z<|z7 Z Z Z<|z7 Z Z Z<|z7 Z Z Z<|z7 Z Z Z<|zb Z Z<|zb Z Z<|zb Z Z<|zb Z Z<|zb Z Z<|zb Z Z<|zb Z Z<|z7 Z Z Z<|ap Z Z Z<|z6 ?_
       exact ⟨_,e7,aG,aC,by rw[w8 (fun h=>by have:=h.2.2.1;omega)];rfl⟩
      ·have h1:¬s<0:=of_decide_eq_false c1
       refine z8 Z Z c1<|aa Z<|z8 Z Z c1<|aa Z<|z8 Z Z c1<|aO Z Z<|aq Z c1 Z<|ai Z<|zm (s:=65) Z (fun c2=>?_) (fun c2=>?_)
       ·have h2:(f.vars.length:Int)<s:=wb c2
        refine z7 Z Z c2<|z7 Z Z c2<|z7 Z Z c2<|z7 Z Z c2<|zb Z Z<|zb Z Z<|zb Z Z<|zb Z Z<|zb Z Z<|zb Z Z<|zb Z Z<|z7 Z Z c2<|ap Z c2 Z<|z6 ?_
        exact ⟨_,e7,aG,aC,by rw[w8 (fun h=>by have:=h.2.2.2.1;omega)];rfl⟩
       ·have h2:¬(f.vars.length:Int)<s:=of_decide_eq_false c2
        refine z8 Z Z c2<|aa Z<|z8 Z Z c2<|aa Z<|z8 Z Z c2<|aw Z Z<|z8 Z Z c2<|ai Z<|zm (s:=69) Z (fun c3=>?_) (fun c3=>?_)
        ·have h5:s<f.vars.length:=wb c3
         have hty:oV f s=f.vars[s.toNat].ty:=by have:=lT (f:=f) (v:=s.toNat) (by omega);rwa [wa (by omega)] at this
         refine z8 Z Z c3<|ae je Z Zg Z Z<|z8 Z Z c3<|aI Zp Z<|z8 Z Z c3<|aa Z<|z8 Z Z c3<|za (bD s.toNat js Zx Z Z (by omega) (qq (by omega)))<|z8 Z Z c3<|ae Zd Z Yj Z Z<|z8 Z Z c3<|ax Yv Z<|z8 Z Z c3<|aH Z Z<|z8 Z Z c2<|ap Z c3 Z<|aq Z c2 Z<|z6 ?_
         exact ⟨_,e7,aG,aC,by rw[←hty];congr 1;exact decide_eq_decide.2 ⟨fun h=>⟨hs,hll,by omega,by omega,fun _=>h⟩,fun h=>h.2.2.2.2 h5⟩⟩
        ·have h5:¬s<f.vars.length:=of_decide_eq_false c3
         refine z7 Z Z c3<|z7 Z Z c3<|z7 Z Z c3<|z7 Z Z c3<|z7 Z Z c3<|z7 Z Z c3<|z7 Z Z c3<|z8 Z Z c2<|aq Z c3 Z<|aq Z c2 Z<|z6 ?_
         exact ⟨_,e7,aG,aC,by rw[w7 (show EJ f l s from ⟨hs,hll,by omega,by omega,fun h=>absurd h h5⟩)];rfl⟩
     ·rintro u hu2
      subst hu2
      refine zt Z (fun c4=>?_) (fun c4=>?_)
      ·rw[hub (eB c4)]
       refine ah<|aU Z<|ak Zi Z<|aj Z Z<|ac Z<|z6<|zg<|zk (x:=.bool _) Z ?_
       rfl
      ·have hcu:=eF c4
       obtain ⟨K2,hK2,hKb2,hRu⟩:=hug hcu
       have hss:0≤s∧s≤f.vars.length:=⟨hcu.2.2.1,hcu.2.2.2.1⟩
       have hru:=jZ (E:=E) f hF hs hN l ho hll true s hss K2 hK2 hKb2
       rw[show JT true=1 from rfl] at hru
       have hel2:(n6 (eJ f l true s) K2).length=f.vars.length+1:=(ky (S:=eJ f l true s) hss.1 (ll hss.1 hss.2 (K2+1)) 2).len
       have hsame2:=oz (E:=E) (n6 (eJ f l true s) K2) (by omega)
       rw[show (n6 (eJ f l true s) K2).map mL=Ru from hRu.symm] at hsame2
       refine zd<|zc<|y7 (fun j=>false) (by kernel_rfl) Z (zn (.rest _))<|au 0 Z (kl Z)<|au 1 Z (yk jm jh Z Z)<|au 2 Z (kl Z)<|au 4 Z (cG Z)<|aV 3 Z<|ze (tS l (by omega)) Z<|z6<|aV 5 Z<|ze (hru) Z<|z6<|aV 6 Z<|ze (hsame2) Z<|z6<|au 7 Z (HM Z)<|bY<|zg<|zk (x:=.bool _) Z ?_
       rfl
end
section
open Go.Proofs.Tryz
open Go.Proofs Go.Lib Go.Shelf Go.RowKit Go.WideShapes
set_option maxRecDepth 20000
variable {W:World}
theorem EX:jM prog W 3 fa (fun x=>(Lit.int .i64 x).wf=true):=jM.int Y0
theorem Bi:jM prog W 23 (fun l:List Int=>[.fro 1 (l.map fa)]) wL:=fun en held fuel cs x h=>by
 obtain ⟨l,hl,r⟩:=jM.slice (k:=1) j9 EX (by kernel_rfl) (by decide) en held fuel cs x h
 exact ⟨l,hl.2,r⟩
theorem J9:jM prog W 40 nQ (fun _=>True):=fun en held fuel cs x h=>by
 obtain ⟨xs,n,_,_,hl,hxl,hf⟩:=DataW.trod_struct Zd h
 have hl:cs.length=2:=hl.trans (by kernel_rfl)
 have hxl:xs.length=2:=hxl
 obtain ⟨a,_,ra⟩:=qo (o:=0) (k:=1) (hf 0 _ rfl) (jM.str Zw) (by omega) rfl (by kernel_rfl)
 obtain ⟨b,_,rb⟩:=qo (o:=1) (k:=1) (hf 1 _ rfl) (jM.int underlying38) (by omega) rfl (by kernel_rfl)
 exact ⟨⟨a,b⟩,trivial,q6 (o:=0) ra (q6 rb (RepL.fin hl))⟩
theorem Ka:jM prog W 62 dg L3:=fun en held fuel cs x h=>by
 obtain ⟨xs,n,_,_,hl,hxl,hf⟩:=DataW.trod_struct jt h
 have hl:cs.length=3:=hl.trans (by kernel_rfl)
 have hxl:xs.length=3:=hxl
 obtain ⟨a,_,ra⟩:=qo (o:=0) (k:=1) (hf 0 _ rfl) EX (by omega) rfl (by kernel_rfl)
 obtain ⟨b,hb,rb⟩:=qo (o:=1) (k:=1) (hf 1 _ rfl) Bi (by omega) rfl (by kernel_rfl)
 obtain ⟨c,hc,rc⟩:=qo (o:=2) (k:=1) (hf 2 _ rfl) Bi (by omega) rfl (by kernel_rfl)
 exact ⟨⟨a,b,c⟩,⟨hb,hc⟩,q6 (o:=0) ra (q6 rb (q6 rc (RepL.fin hl)))⟩
def Lw (x:aN):Prop:=wL x.args∧(Lit.int .i64 x.num).wf=true
theorem HP:jM prog W 44 cK Lw:=fun en held fuel cs x h=>by
 obtain ⟨xs,n,_,_,hl,hxl,hf⟩:=DataW.trod_struct j8 h
 have hl:cs.length=4:=hl.trans (by kernel_rfl)
 have hxl:xs.length=4:=hxl
 obtain ⟨a,_,ra⟩:=qo (o:=0) (k:=1) (hf 0 _ rfl) (jM.int underlying42) (by omega) rfl (by kernel_rfl)
 obtain ⟨b,_,rb⟩:=qo (o:=1) (k:=1) (hf 1 _ rfl) EX (by omega) rfl (by kernel_rfl)
 obtain ⟨c,hc,rc⟩:=qo (o:=2) (k:=1) (hf 2 _ rfl) Bi (by omega) rfl (by kernel_rfl)
 obtain ⟨d,hd,rd⟩:=qo (o:=3) (k:=1) (hf 3 _ rfl) (jM.int X7) (by omega) rfl (by kernel_rfl)
 exact ⟨⟨a,b,c,d⟩,⟨hc,hd⟩,q6 (o:=0) ra (q6 rb (q6 rc (q6 rd (RepL.fin hl))))⟩
theorem HQ:jM prog W 49 pp (fun _=>True):=fun en held fuel cs x h=>by
 obtain ⟨xs,n,_,_,hl,hxl,hf⟩:=DataW.trod_struct jj h
 have hl:cs.length=4:=hl.trans (by kernel_rfl)
 have hxl:xs.length=3:=hxl
 obtain ⟨a,_,ra⟩:=qo (o:=0) (k:=1) (hf 0 _ rfl) (jM.int underlying46) (by omega) rfl (by kernel_rfl)
 obtain ⟨b,_,rb⟩:=qo (o:=1) (k:=1) (hf 1 _ rfl) EX (by omega) rfl (by kernel_rfl)
 obtain ⟨c,_,rc⟩:=qo (o:=2) (k:=2) (hf 2 _ rfl) (jM.pair (k:=1) Z4 EX (by kernel_rfl) (by kernel_rfl)) (by omega) rfl (by kernel_rfl)
 exact ⟨⟨a,b,c.1,c.2⟩,trivial,q6 (o:=0) ra (q6 rb (q6 rc (RepL.fin hl)))⟩
def Ly (f:ad):Prop:=∀b∈f.blocks,∀x∈b.insts,aP x.num
def Lz (b:bc):Prop:=L4 b∧∀x∈b.insts,-9223372036854775808≤x.num∧x.num≤9223372036854775807
theorem HR:jM prog W 52 d7 Lz:=fun en held fuel cs x h=>by
 obtain ⟨xs,n,_,_,hl,hxl,hf⟩:=DataW.trod_struct jl h
 have hl:cs.length=7:=hl.trans (by kernel_rfl)
 have hxl:xs.length=4:=hxl
 obtain ⟨a,_,ra⟩:=qo (o:=0) (k:=1) (hf 0 _ rfl) (jM.str Zw) (by omega) rfl (by kernel_rfl)
 obtain ⟨b,hb,rb⟩:=qo (o:=1) (k:=1) (hf 1 _ rfl) (jM.slice (k:=3) Z2 Ka (by kernel_rfl) (by decide)) (by omega) rfl (by kernel_rfl)
 obtain ⟨c,hc,rc⟩:=qo (o:=2) (k:=1) (hf 2 _ rfl) (jM.slice (k:=4) jx HP (by kernel_rfl) (by decide)) (by omega) rfl (by kernel_rfl)
 obtain ⟨d,_,rd⟩:=qo (o:=3) (k:=4) (hf 3 _ rfl) HQ (by omega) rfl (by kernel_rfl)
 exact ⟨⟨a,b,c,d⟩,⟨⟨hb.2,hc.2,hb.1,fun x hx=>(hc.1 x hx).1⟩,fun x hx=>by simpa [Lit.wf,IntKind.min,IntKind.max,IntKind.signed,IntKind.bits] using (hc.1 x hx).2⟩,q6 (o:=0) ra (q6 rb (q6 rc (q6 rd (RepL.fin hl))))⟩
theorem LA:jM prog W 26 bL (fun f=>tH f∧Ly f):=fun en held fuel cs x h=>by
 obtain ⟨xs,n,_,_,hl,hxl,hf⟩:=DataW.trod_struct je h
 have hl:cs.length=3:=hl.trans (by kernel_rfl)
 have hxl:xs.length=3:=hxl
 obtain ⟨a,ha,ra⟩:=qo (o:=0) (k:=1) (hf 0 _ rfl) (jM.slice (k:=2) js J9 (by kernel_rfl) (by decide)) (by omega) rfl (by kernel_rfl)
 obtain ⟨b,hb,rb⟩:=qo (o:=1) (k:=1) (hf 1 _ rfl) Bi (by omega) rfl (by kernel_rfl)
 obtain ⟨c,hc,rc⟩:=qo (o:=2) (k:=1) (hf 2 _ rfl) (jM.slice (k:=7) jk HR (by kernel_rfl) (by decide)) (by omega) rfl (by kernel_rfl)
 exact ⟨⟨a,b,c⟩,⟨⟨ha.2,hb,hc.2,fun x hx=>(hc.1 x hx).1⟩,fun x hx=>(hc.1 x hx).2⟩,q6 (o:=0) ra (q6 rb (q6 rc (RepL.fin hl)))⟩
theorem Kb:jM prog W 54 bg cY:=fun en held fuel cs x h=>by
 obtain ⟨xs,n,_,_,hl,hxl,hf⟩:=DataW.trod_struct Zf h
 have hl:cs.length=2:=hl.trans (by kernel_rfl)
 have hxl:xs.length=2:=hxl
 obtain ⟨a,ha,ra⟩:=qo (o:=0) (k:=1) (hf 0 _ rfl) (jM.int X7) (by omega) rfl (by kernel_rfl)
 obtain ⟨b,hb,rb⟩:=qo (o:=1) (k:=1) (hf 1 _ rfl) (jM.int X7) (by omega) rfl (by kernel_rfl)
 exact ⟨(a,b),⟨by simpa [aP,Lit.wf,IntKind.min,IntKind.max,IntKind.signed,IntKind.bits] using ha,by simpa [aP,Lit.wf,IntKind.min,IntKind.max,IntKind.signed,IntKind.bits] using hb⟩,q6 (o:=0) ra (q6 rb (RepL.fin hl))⟩
theorem HS:jM prog W 27 (fun l:List be=>[.fro 2 (l.map bg)]) (fun l=>(∀r∈l,cY r)∧l.length≤9223372036854775807):=fun en held fuel cs x h=>
 jM.slice (k:=2) Yn Kb (by kernel_rfl) (by decide) en held fuel cs x h
theorem EY {H:Type} {enc:TypeId × Value→H} {held:Bool} {α:Type} {T e:TypeId} {k:Nat} {g:α→List (List AV)} {ok:α→Prop} {base:Nat} {v:Value} {d:DataW H} {p:List MemPlace} (hd:jM prog W T (fun a=>[.fro k (g a)]) ok) (ht:prog.underlying T=some (.slice e))
  (hv:Value.okWide prog W .any base T v) (h:DataW.Trod enc prog W 0 (fun _=>true) held T v d p):∃a,ok a∧bI (I0 W) (.fro k (g a)) v:=by
 obtain ⟨a,len,cap,rfl⟩:=okWide_slice ht hv
 obtain ⟨fuel,h⟩:=h
 obtain ⟨a,h1,v,_,e,h2,h3⟩:=hd enc held fuel _ _ h
 cases e
 exact ⟨a,h1,h2⟩
theorem Kc {H:Type} {enc:TypeId × Value→H} {held:Bool} {T:TypeId} {base:Nat} {v:Value} {d:DataW H} {p:List MemPlace} (ht:prog.underlying T=some (.int .i64))
  (hv:Value.okWide prog W .any base T v) (h:DataW.Trod enc prog W 0 (fun _=>true) held T v d p):∃n:Int,aP n∧v=.int .i64 n:=by
 obtain ⟨n,rfl⟩:=okWide_int ht hv
 obtain ⟨fuel,h⟩:=h
 obtain ⟨m,h1,h2⟩:=jM.int ht enc held fuel _ _ h
 obtain ⟨v,_,e,h2,h3⟩:=h2
 cases e
 cases h2
 exact ⟨n,by simpa [aP,Lit.wf,IntKind.min,IntKind.max,IntKind.signed,IntKind.bits] using h1,rfl⟩
theorem C7 {H:Type} {enc:TypeId × Value→H} {held:Bool} {α:Type} {T:TypeId} {e:α→List AV} {ok:α→Prop} {fs:Array Field} {base:Nat} {v:Value} {d:DataW H} {p:List MemPlace} (hd:jM prog W T e ok) (ht:prog.underlying T=some (.struct fs))
  (hv:Value.okWide prog W .any base T v) (h:DataW.Trod enc prog W 0 (fun _=>true) held T v d p):∃a,ok a∧bI (I0 W) (.agg (e a)) v:=by
 obtain ⟨cs,rfl,_⟩:=okWide_struct ht hv
 obtain ⟨fuel,h⟩:=h
 obtain ⟨a,h1,h2⟩:=hd enc held fuel _ _ h
 exact ⟨a,h1,cs.toList,by simp,h2⟩
theorem M4:RExtra prog Tryz.lays200_ren:=⟨by kernel_rfl,by kernel_rfl,by kernel_rfl,by kernel_rfl,by kernel_rfl,by kernel_rfl,by kernel_rfl,by kernel_rfl⟩
theorem zG (h:Lib.VarReads prog W "unicode.properties" (Lib.tabData .u8 Lib.propertiesTab)) (h2:Lib.VarReads prog W "unicode.Letter" (Lib.rtabData letterT)):aE W:=
 ⟨lh (g:=0) (by kernel_rfl) (by kernel_rfl) underlying304 underlying5 (by kernel_rfl) (by kernel_rfl) h,
  rvar_of_reads { Tryz.lays200 with } M4 (name:="unicode.Letter") (g:=1) (by kernel_rfl) (by kernel_rfl) h2⟩
end
section
open Go.Proofs.Tryz
open Go.Proofs
theorem M5:prog.mayEnter=true:=by kernel_rfl
theorem LB:(Rows.abcdTellsRow.lifted == prog.liftsFinal)=true:=by kernel_rfl
theorem LC:(prog.make == some Rows.abcdTellsRow.make)=true:=by kernel_rfl
theorem LD:laidOutB prog=true:=by kernel_rfl
theorem M6:mapsRowed prog=true:=by kernel_rfl
theorem LE:(prog.stops == [])=true:=by kernel_rfl
theorem LF:(prog.stopKnobs == [])=true:=by kernel_rfl
theorem LG:(Rows.abcdTellsRow.plainKeys == prog.plainKeys)=true:=by kernel_rfl
theorem Kd:prog.stopsHeard=true:=by kernel_rfl
theorem Nz:(Rows.abcdTellsRow.inPlace == prog.inPlace 3)=true:=by kernel_rfl
theorem NA:(Rows.abcdTellsRow.unfollowed == prog.unfollowed 3)=true:=by kernel_rfl
theorem M7:(Rows.abcdTellsRow.recurses == prog.recurses 3)=true:=by kernel_rfl
theorem M8:(Rows.abcdTellsRow.named == prog.varsNamed 3)=true:=by kernel_rfl
theorem closed:joinedFacts prog 3 Tryz.f3 Rows.abcdTellsSpec Rows.abcdTellsRow=true:=by
 unfold joinedFacts
 rw[LD,M6,LE,LF,Nz,NA,M7,M8,LG,Kd,M5,LB,LC]
 kernel_rfl
end
section
open Go.Proofs.Tryz
open Go.Proofs Go.Lib Go.Shelf Go.RowKit
variable {W:World}
theorem HT (h:Lib.VarReads prog W "internal/strconv.uint64pow10" (Lib.tabData .u64 Lib.pow10Tab)):b8 W:=
 lh (g:=2) (by kernel_rfl) (by kernel_rfl) underlying341 Yp (by kernel_rfl) (by kernel_rfl) h
end
end Go.Proofs.YtbanfokidalbaaaGreatDoor
