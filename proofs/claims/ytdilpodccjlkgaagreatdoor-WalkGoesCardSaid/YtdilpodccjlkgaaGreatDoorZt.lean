/- The document's typed; the laws' typed, single and plain. Of programs that are little. -/
import Derived.Test.YtdilpodccjlkgaaGreatDoorZs
set_option linter.unusedVariables false
set_option linter.unusedSimpArgs false
set_option linter.unusedSectionVars false
namespace Go.Proofs.YtdilpodccjlkgaaGreatDoor
open Go.Proofs.Tryz
open Go.Proofs Go.Lib Go.Shelf Go.RowKit
variable {E:World}
set_option maxRecDepth 20000
theorem Ah {f:ac} (hE:bW f) (i:Nat) (p:dG):D9 f i p=true↔yX f i p.from_:=by
 unfold D9
 rw[wg,nc,AQ hE]
theorem xS {l:List Int} (hn:l.Nodup) {i:Int} (h:i∈l):(l.filter fun c=>decide (c=i))=[i]:=by
 induction l with
 |nil=>cases h
 |cons c l ih=>
  obtain ⟨h1,h2⟩:=List.nodup_cons.1 hn
  by_cases e:c=i
  ·subst e
   have:(l.filter fun x=>decide (x=c))=[]:=List.filter_eq_nil_iff.2 fun x hx=>by
    simp only[wg];rintro rfl;exact h1 hx
   simp[this]
  ·rw[List.filter_cons_of_neg (by simpa using e)]
   rcases List.mem_cons.1 h with h3|h3
   ·exact absurd h3.symm e
   ·exact ih h2 h3
theorem xT {f:ac} (k:Nat) (i:Int):(bd (ah f) (k+1) i).length=(bd (ah f) k i).length+if i∈ah f k then 1 else 0:=by
 rw[kN,qz,w1]
 have hn:=jP f k
 congr 1
 by_cases h:i∈ah f k
 ·rw[if_pos h]
  have h1:=xS hn h
  rw[h1];rfl
 ·rw[if_neg h]
  have h1:((ah f k).filter fun c=>decide (c=i))=[]:=List.filter_eq_nil_iff.2 fun c hc=>by
   simp only[wg];rintro rfl;exact h hc
  rw[h1];rfl
set_option maxHeartbeats 4000000 in
theorem qX (f:ac) (hE:bW f) (hf:small f) (hS:bR f):aM prog E 78 [.agg (bE f)] (.bool (dg f)):=by
 have hn:=hf.2.2.1
 refine zp func78 Z (by decide) Z<|ai<|ya (cs:=_) Z Z Z<|ab Z<|z6<|zd<|ai<|au jg Z Z8 Z Z<|aI Zg Z<|aq ju Z<|aa Z<|z6<|zm<|y8 (γ:=Nat) [1,13,14] (fun i=>[(15,.int .i64 i)]) (fun i=>[]) (fun i=>i≤f.blocks.length∧(List.range i).all (CZ f)=true) (fun i=>f.blocks.length - i) 0 aK aH (⟨qw _,Z⟩) ?_
 rintro i ⟨hi,hall⟩
 refine ai<|ay Z Z<|z6<|zd<|zt Z (fun ci=>?_) (fun ci=>?_)
 ·have hi2:i<f.blocks.length:=by simp at ci;omega
  obtain ⟨b,hbi⟩:∃b,f.blocks[i]=b:=⟨_,rfl⟩
  have hget:f.blocks[i]?=some b:=by rw[qt hi2,hbi]
  have hmem:b∈f.blocks:=hbi▸qx hi2
  obtain ⟨hb0,hb1,hb2,hb3,hb4⟩:=hf.2.2.2.2 b hmem
  have hPh:=(hS.2.2.2.2.2 b hmem).1
  refine zi<|zd<|zm<|ai<|aa Z<|za (bv i ju jx Z Z Z hget)<|ae Yo jx Z Z<|y7 (cs:=[.str ⟨#[]⟩,.raw (.slice none 0 0),.raw (.slice none 0 0),.int .i64 0,.int .i64 0,.int .i64 0,.int .i64 0]) Zl Z Z<|fun i4=>ao Z<|y1 jx Z Z Z Z Z Z .head Z<|ze (yd (t:=4) Z .head)<|z6<|ai<|au ji Z Yl Z Z<|aI Yv Z<|aq Z3 Z<|aa Z<|z6<|zm<|y8 (γ:=Nat) [1,3,13,14,15,21,22] (fun j=>[(23,.int .i64 j)]) (fun j=>[]) (fun j=>j≤b.phis.length∧(b.phis.take j).all (D9 f i)=true) (fun j=>b.phis.length - j) 0 aK aH (⟨qw _,Z⟩) ?_
  rintro j ⟨hj,hjall⟩
  refine ai<|ay Z Z<|z6<|zd<|zt Z (fun cj=>?_) (fun cj=>?_)
  ·have hj2:j<b.phis.length:=by simp at cj;omega
   obtain ⟨p,hp⟩:∃p,b.phis[j]=p:=⟨_,rfl⟩
   have hpm:p∈b.phis:=hp▸qx hj2
   have hpl:=(hb3 p hpm).2
   have hpr:∀c∈p.from_,0≤c∧c<f.blocks.length:=fun c hc=>by have:=List.all_eq_true.1 (hPh p hpm).2.2.2.2 c hc;simpa [eL] using this
   have hbad:¬yX f i p.from_→dg f=false:=fun h=>dT hi2 (by rw[lp hget];exact Bool.eq_false_iff.2 (df hj2 (by rw[hp];exact Bool.eq_false_iff.2 fun h2=>h ((Ah hE i p).1 h2))))
   refine zi<|zd<|zm<|ai<|za (bv j Z3 Zb Z Z Z (by rw[qt hj2,hp])) ?_
   refine ae X1 Zb Z Z<|y7 (cs:=[.int .i64 0,.raw (.slice none 0 0),.raw (.slice none 0 0)]) Yg Z Z<|fun i6=>y1 Zb Z Z Z Z Z Z .head Z<|ze (yd (t:=6) Z .head)<|z6<|ai<|ao Z<|z6<|zd<|ai<|au jg Z Z8 Z Z<|aI Zg Z<|aq ju Z<|aa Z<|z6<|zm<|y8 (γ:=Nat) [1,3,6,13,14,15,21,22,23,29] (fun a=>[(30,.int .i64 a),(7,.int .i64 (bd (ah f) a i).length)]) (fun a=>[]) (fun a=>a≤f.blocks.length) (fun a=>f.blocks.length - a) 0 eo aH (qw _) ?_
   rintro a ha
   refine ai<|ay Z Z<|z6<|zd<|zt Z (fun ca=>?_) (fun ca=>?_)
   ·have ha2:a<f.blocks.length:=by simp at ca;omega
    have hone:=xT (f:=f) a i
    have hle:=gY f i a
    refine zi<|zd<|zm<|ai<|aa Z<|ao Z<|z6<|ai<|ae jv jj Z Z<|aa Z<|aa Z<|zh (mf f hn (a:Int) (i:Int) (by omega) (by omega)) Z<|z6<|zy Z (fun cl=>?_) (fun cl=>?_)
    ·have hl:(i:Int)∈ah f a:=by simpa using cl
     rw[if_pos hl] at hone
     refine aW<|aa Z<|aE Z Z<|ao Z<|z6<|aW<|aE Z Z<|aa Z<|z6 ?_
     exact ⟨a+1,oc,⟨rfl,(by rw[hone];rfl),trivial⟩,aH,ha2,by omega⟩
    ·have hl:¬(i:Int)∈ah f a:=by simpa using cl
     rw[if_neg hl] at hone
     refine zi<|aW<|aE Z Z<|aa Z<|z6 ?_
     exact ⟨a+1,oc,⟨rfl,(by rw[hone];rfl),trivial⟩,aH,ha2,by omega⟩
   ·have han:a=f.blocks.length:=by simp at ca;omega
    subst han
    refine y6<|zd<|ai<|aa Z<|au jz Z j7 Z Z<|aI jf Z<|aq wy Z<|aO Z Z<|z6<|zy Z (fun cn=>?_) (fun cn=>?_)
    ·have hne:¬(bd (ah f) f.blocks.length i).length=p.from_.length:=by have h0:¬((bd (ah f) f.blocks.length i).length:Int)=(p.from_.length:Int):=(by simpa using cn);omega
     refine ai<|ab Z<|z6<|zg<|zn (x:=.bool _) Z ?_
     rw[hbad fun h=>hne h.1]
    ·have hne:(bd (ah f) f.blocks.length i).length=p.from_.length:=by have h0:((bd (ah f) f.blocks.length i).length:Int)=(p.from_.length:Int):=(by simpa using cn);omega
     refine zi<|ai<|au jz Z j7 Z Z<|aI jf Z<|aq wy Z<|aa Z<|z6<|zm<|y8 (γ:=Nat) [1,3,6,13,14,15,21,22,23,46,47] (fun k=>[(48,.int .i64 k)]) (fun k=>[]) (fun k=>k≤p.from_.length∧∀q (h:q<p.from_.length),q<k→(i:Int)∈ah f p.from_[q]∧p.from_[q] ∉ p.from_.take q) (fun k=>p.from_.length - k) 0 aK aH (⟨qw _,fun q h h2=>by omega⟩) ?_
     rintro k ⟨hk,hok⟩
     refine ai<|ay Z Z<|z6<|zd<|zt Z (fun ck=>?_) (fun ck=>?_)
     ·have hk2:k<p.from_.length:=by simp at ck;omega
      obtain ⟨c,hc⟩:∃c,p.from_[k]=c:=⟨_,rfl⟩
      obtain ⟨hc0,hcn⟩:=hpr c (hc▸qx hk2)
      refine zi<|zd<|zm<|ai<|aa Z<|za (bv k wy wz Z Z Z (by rw[qt hk2,hc])) ?_
      refine aA j6 Z<|ao Z<|ao Z<|z6<|zd<|ai<|ae jv jj Z Z<|aa Z<|aa Z<|zh (mf f hn c (i:Int) hc0 hcn) Z<|aC Z<|z6<|zy Z (fun cl=>?_) (fun cl=>?_)
      ·have hl:¬(i:Int)∈ah f c:=by simpa using cl
       refine ai<|ab Z<|z6<|zg<|zn (x:=.bool _) Z ?_
       rw[hbad fun h=>hl (hc▸(h.2 k hk2).1)]
      ·have hl:(i:Int)∈ah f c:=by simpa using cl
       refine zi<|ai<|aa Z<|aa Z<|z6<|zm<|y8 (γ:=Nat) [1,3,6,10,13,14,15,21,22,23,46,47,48,58] (fun q=>[(59,.int .i64 q)]) (fun q=>[]) (fun q=>q≤k∧c ∉ p.from_.take q) (fun q=>k - q) 0 aK aH (⟨qw _,by simp⟩) ?_
       rintro q ⟨hq,hqn⟩
       refine ai<|ay Z Z<|z6<|zd<|zt Z (fun cq=>?_) (fun cq=>?_)
       ·have hq2:q<k:=by omega
        have hq3:q<p.from_.length:=by omega
        refine zi<|zd<|zm<|ai<|aa Z<|ao Z<|z6<|ai<|au jz Z j7 Z Z<|aI jf Z<|aa Z<|za (bv q wy wz Z Z Z (qt hq3))<|aA j6 Z<|aa Z<|ak Z Z<|z6<|zy Z (fun ce=>?_) (fun ce=>?_)
        ·have he:p.from_[q]=c:=by simpa using ce
         have hin:c∈p.from_.take k:=by rw[←he];exact List.mem_take_iff_getElem.2 ⟨q,by omega,rfl⟩
         refine ai<|ab Z<|z6<|zg<|zn (x:=.bool _) Z ?_
         rw[hbad fun h=>(h.2 k hk2).2 (by rw[hc];exact hin)]
        ·have he:¬p.from_[q]=c:=by simpa using ce
         refine zi<|aW<|aE Z Z<|aa Z<|z6 ?_
         exact ⟨q+1,⟨rfl,rfl,rfl,rfl,rfl,rfl,rfl,rfl,rfl,rfl,rfl,rfl,rfl,rfl,trivial⟩,aK,aH,⟨hq2,fun hm=>by rw[qu hq3] at hm;rcases List.mem_append.1 hm with h1|h1;exact hqn h1;simp at h1;exact he h1.symm⟩,by omega⟩
       ·have hqn2:q=k:=by omega
        subst hqn2
        refine y6<|aW<|aE Z Z<|aa Z<|z6 ?_
        exact ⟨q+1,oY,aK,aH,⟨hk2,fun r hr h2=>by rcases Nat.lt_succ_iff_lt_or_eq.1 h2 with h3|h3;exact hok r hr h3;subst h3;rw[hc];exact ⟨hl,hqn⟩⟩,by omega⟩
     ·have hkn:k=p.from_.length:=by simp at ck;omega
      subst hkn
      refine y6<|aW<|aE Z Z<|aa Z<|z6 ?_
      exact ⟨j+1,lf,aK,aH,⟨hj2,bJ hj2 hjall (by rw[hp];exact (Ah hE i p).2 ⟨hne,fun q hq=>hok q hq hq⟩)⟩,by omega⟩
  ·have hjn:j=b.phis.length:=by simp at cj;omega
   subst hjn
   rw[qy] at hjall
   refine y6<|aW<|aE Z Z<|aa Z<|z6 ?_
   exact ⟨i+1,db,aK,aH,⟨hi2,cM hall (by rw[lp hget];exact hjall)⟩,by omega⟩
 ·have hin:i=f.blocks.length:=by simp at ci;omega
  subst hin
  refine y6<|ai<|ab Z<|z6<|zg<|zn (x:=.bool _) Z ?_
  rw[show dg f=true from hall]
end Go.Proofs.YtdilpodccjlkgaaGreatDoor
namespace Go.Proofs.YtdilpodccjlkgaaGreatDoor
open Go.Proofs.Tryz
open Go.Proofs Go.Lib Go.Shelf Go.RowKit
variable {E:World}
set_option maxRecDepth 20000
theorem DO {f:ac} {v:Int} (h:bc f v=true):∃k:Nat,v=(k:Int)∧k<f.vars.length:=by
 have h1:0≤v∧v<f.vars.length:=by simpa [bc] using h
 exact ⟨v.toNat,by omega,by omega⟩
theorem ii (f:ac) (hE:bW f) (hf:small f) {v:Int} (hv:bc f v=true) (b a:Int) (h0:0≤b) (hb:b<f.blocks.length):aM prog E 80 [.agg (bE f),.int .i64 v,.int .i64 b,.int .i64 a] (.bool (eF f (aL f v) b a)):=by
 obtain ⟨k,rfl,hk⟩:=DO hv
 exact rM f hE hf k b a h0 hb
theorem oN {f:ac} {i:Nat} {b:aX} (hi:i<f.blocks.length) (hg:f.blocks[i]?=some b) (h:ov f i b=false):iV f=false:=by
 unfold iV;rw[dT hi (by rw[nm hg];exact h)];simp
set_option maxHeartbeats 8000000 in
theorem qY (f:ac) (hE:bW f) (hf:small f) (hS:bR f):aM prog E 40 [.agg (bE f)] (.bool (iV f)):=by
 have hn:=hf.2.2.1
 have hv:=hf.1
 have hG:=hE.grph
 refine zp func40 Z (by decide) Z<|ai<|ya (cs:=_) Z Z Z<|ab Z<|z6<|zd<|ai<|ae jv jj Z Z<|zh (qX f hE hf hS) Z<|aC Z<|z6<|zy Z (fun cj=>?_) (fun cj=>?_)
 ·have dj:dg f=false:=by simpa using cj
  refine ai<|ab Z<|z6<|zg<|zn (x:=.bool _) Z ?_
  rw[show iV f=false by unfold iV;rw[dj];rfl]
 ·have dj:dg f=true:=by simpa using cj
  refine zi<|ai<|ae jv jj Z Z<|zh (mU f hE hn (-1)) Z<|za (nI Z)<|z6<|zd<|ai<|au jg Z Yc Z Z<|aI Yn Z<|aq Z9 Z<|aa Z<|z6<|zm<|y8 (γ:=Nat) [1,3,23] (fun v=>[(24,.int .i64 v)]) (fun v=>[]) (fun v=>v≤f.vars.length∧(List.range v).all (iU f)=true) (fun v=>f.vars.length - v) 0 aK aH (⟨qw _,Z⟩) ?_
  rintro v ⟨hvl,hall⟩
  refine ai<|ay Z Z<|z6<|zd<|zt Z (fun cv=>?_) (fun cv=>?_)
  ·have hv2:v<f.vars.length:=by simp at cv;omega
   have hbad:iU f v=false→iV f=false:=fun h=>by unfold iV;rw[show lK f=false from dT hv2 h];simp
   refine zi<|zd<|zm<|ai<|aa Z<|ao Z<|z6<|ai<|ae jv jj Z Z<|aa Z<|zh (oz f hf v) Z<|ao Z<|z6<|ai<|aa Z<|aZ Z Z<|aj Z<|zq (s:=32) Z (fun c1=>?_) (fun c1=>?_)
   ·have d1:1<(bu f v).length:=by have h0:(1:Int)<((bu f v).length:Int):=(by simpa using c1);omega
    refine z7 Z Z c1<|z7 Z Z c1<|z7 Z Z c1<|zk Z Z<|zk Z Z<|zk Z Z<|zk Z Z<|zk Z Z<|z7 Z Z c1<|aw Z c1 Z<|z6<|yt Z Z<|ai<|ab Z<|z6<|zg<|zn (x:=.bool _) Z ?_
    rw[hbad (by unfold iU;simp[d1])]
   ·have d1:¬1<(bu f v).length:=by have h0:¬(1:Int)<((bu f v).length:Int):=(by simpa using c1);omega
    refine z8 Z Z c1<|aa Z<|z8 Z Z c1<|aZ Z Z<|z8 Z Z c1<|aj Z<|zq (s:=35) Z (fun c2=>?_) (fun c2=>?_)
    ·have d2:0<(bu f v).length:=by have h0:(0:Int)<((bu f v).length:Int):=(by simpa using c2);omega
     refine z8 Z Z c2<|aa Z<|z8 Z Z c2<|au jg Z j7 Z Z<|z8 Z Z c2<|aI jf Z<|z8 Z Z c2<|aq wy Z<|z8 Z Z c2<|ay Z Z<|z8 Z Z c1<|aw Z c2 Z<|ax Z c1 Z<|z6<|zy Z (fun c3=>?_) (fun c3=>?_)
     ·have d3:v<f.params.length:=by simpa using c3
      refine ai<|ab Z<|z6<|zg<|zn (x:=.bool _) Z ?_
      rw[hbad (by unfold iU;rw[w8 d2,w8 d3];simp)]
     ·have d3:¬v<f.params.length:=by simpa using c3
      refine zi<|aW<|aE Z Z<|aa Z<|z6 ?_
      exact ⟨v+1,db,aK,aH,⟨hv2,cM hall (by unfold iU;rw[w9 d1,w9 d3];simp)⟩,by omega⟩
    ·have d2:¬0<(bu f v).length:=by have h0:¬(0:Int)<((bu f v).length:Int):=(by simpa using c2);omega
     refine z7 Z Z c2<|z7 Z Z c2<|z7 Z Z c2<|z7 Z Z c2<|z7 Z Z c2<|z8 Z Z c1<|ax Z c2 Z<|ax Z c1 Z<|z6<|yg Z Z<|zi<|aW<|aE Z Z<|aa Z<|z6 ?_
     exact ⟨v+1,db,aK,aH,⟨hv2,cM hall (by unfold iU;rw[w9 d1,w9 d2];rfl)⟩,by omega⟩
  ·have hvn:v=f.vars.length:=by simp at cv;omega
   subst hvn
   have donce:lK f=true:=hall
   refine y6<|zd<|ai<|au jg Z Z8 Z Z<|aI Zg Z<|aq ju Z<|aa Z<|z6<|zm<|y8 (γ:=Nat) [1,3,45,46] (fun i=>[(47,.int .i64 i)]) (fun i=>[]) (fun i=>i≤f.blocks.length∧(List.range i).all (Hg f)=true) (fun i=>f.blocks.length - i) 0 aK aH (⟨qw _,Z⟩) ?_
   rintro i ⟨hi,hiall⟩
   refine ai<|ay Z Z<|z6<|zd<|zt Z (fun ci=>?_) (fun ci=>?_)
   ·have hi2:i<f.blocks.length:=by simp at ci;omega
    obtain ⟨b,hbi⟩:∃b,f.blocks[i]=b:=⟨_,rfl⟩
    have hget:f.blocks[i]?=some b:=by rw[qt hi2,hbi]
    have hmem:b∈f.blocks:=hbi▸qx hi2
    obtain ⟨hb0,hb1,hb2,hb3,hb4⟩:=hf.2.2.2.2 b hmem
    obtain ⟨hPh,hIn,hTm⟩:=hS.2.2.2.2.2 b hmem
    have hth:=l9 (E:=ah f) (shut:=-1) hi2
    refine zi<|zd<|zm<|ai<|aa Z<|za (bv i ju jx Z Z Z hget)<|ae Yo jx Z Z<|y7 (cs:=[.str ⟨#[]⟩,.raw (.slice none 0 0),.raw (.slice none 0 0),.int .i64 0,.int .i64 0,.int .i64 0,.int .i64 0]) Zl Z Z<|fun i7=>ao Z<|y1 jx Z Z Z Z Z Z .head Z<|ze (yd (t:=7) Z .head)<|z6<|zd<|ai<|be Z<|aa Z<|za (bv i jk Z6 Z Z Z hth)<|za (yx (c:=.bool _) Ym Z)<|aC Z<|z6<|zy Z (fun cr=>?_) (fun cr=>?_)
    ·have dr:¬om (ah f) (i:Int):=fun h=>by simp at cr;exact cr ((yU hG).2 h)
     refine ai<|ab Z<|z6<|zg<|zn (x:=.bool _) Z ?_
     rw[oN hi2 hget (by unfold ov;simp[dr])]
    ·have dr:om (ah f) (i:Int):=by simp at cr;exact (yU hG).1 cr
     refine zi<|zd<|ai<|au ji Z Yl Z Z<|aI Yv Z<|aq Z3 Z<|aa Z<|z6<|zm<|y8 (γ:=Nat) [1,3,6,7,45,46,47,58,59] (fun j=>[(60,.int .i64 j)]) (fun j=>[]) (fun j=>j≤b.phis.length∧(b.phis.take j).all (Hd f)=true) (fun j=>b.phis.length - j) 0 aK aH (⟨qw _,Z⟩) ?_
     rintro j ⟨hj,hjall⟩
     refine ai<|ay Z Z<|z6<|zd<|zt Z (fun cjj=>?_) (fun cjj=>?_)
     ·have hj2:j<b.phis.length:=by simp at cjj;omega
      obtain ⟨p,hp⟩:∃p,b.phis[j]=p:=⟨_,rfl⟩
      have hpm:p∈b.phis:=hp▸qx hj2
      obtain ⟨hpd,hpl,hpn,hpa,hpf⟩:=hPh p hpm
      have hpb:=hb3 p hpm
      refine zi<|zd<|zm<|ai<|za (bv j Z3 Zb Z Z Z (by rw[qt hj2,hp])) ?_
      refine ae X1 Zb Z Z<|y7 (cs:=[.int .i64 0,.raw (.slice none 0 0),.raw (.slice none 0 0)]) Yg Z Z<|fun i9=>y1 Zb Z Z Z Z Z Z .head Z<|ze (yd (t:=9) Z .head)<|z6<|ai<|au jz Z j7 Z Z<|aI jf Z<|aq wy Z<|aa Z<|z6<|zm<|y8 (γ:=Nat) [1,3,6,7,9,45,46,47,58,59,60,65,66] (fun k=>[(67,.int .i64 k)]) (fun k=>[]) (fun k=>k≤p.args.length∧((p.args.zip p.from_).take k).all (fun q=>eF f (aL f q.1) q.2 (fE f q.2))=true) (fun k=>p.args.length - k) 0 aK aH (⟨qw _,Z⟩) ?_
      rintro k ⟨hk,hkall⟩
      refine ai<|ay Z Z<|z6<|zd<|zt Z (fun ck=>?_) (fun ck=>?_)
      ·have hk2:k<p.args.length:=by simp at ck;omega
       have hk3:k<p.from_.length:=by omega
       obtain ⟨v,hv⟩:∃v,p.args[k]=v:=⟨_,rfl⟩
       obtain ⟨c,hc⟩:∃c,p.from_[k]=c:=⟨_,rfl⟩
       have hvv:=List.all_eq_true.1 hpa v (hv▸qx hk2)
       have hcr:0≤c∧c<f.blocks.length:=by have:=List.all_eq_true.1 hpf c (hc▸qx hk3);simpa [eL] using this
       obtain ⟨d,hd⟩:∃d,f.blocks[c.toNat]'(by omega)=d:=⟨_,rfl⟩
       have hdg:f.blocks[c.toNat]?=some d:=by rw[qt (by omega),hd]
       have hla:fE f c=d.insts.length:=by unfold fE;rw[hdg];rfl
       have hz:k<(p.args.zip p.from_).length:=by rw[List.length_zip];omega
       have hzk:(p.args.zip p.from_)[k]=(v,c):=by rw[List.getElem_zip,hv,hc]
       refine zi<|zd<|zm<|ai<|aa Z<|za (bv k wy wz Z Z Z (by rw[qt hk2,hv])) ?_
       refine aA j6 Z<|ao Z<|ao Z<|z6<|zd<|zr (fun j=>false) (by kernel_rfl) Z (zj (.rest _))<|ad 0 Z (yw jv jj Z Z)<|ad 1 Z (cD Z)<|ad 2 Z (bK jz Z j7 Z Z)<|ad 3 Z (e9 jf Z)<|ad 4 Z (cD Z)<|ad 5 Z (bv k wy wz Z Z Z (by rw[qt hk3,hc])) ?_
       refine ad 6 Z (cQ j6 Z)<|ad 7 Z (bK jg Z Z8 Z Z)<|ad 8 Z (e9 Zg Z)<|ad 9 Z (bK jz Z j7 Z Z)<|ad 10 Z (e9 jf Z)<|ad 11 Z (cD Z)<|ad 12 Z (bv k wy wz Z Z Z (by rw[qt hk3,hc])) ?_
       refine ad 13 Z (cQ j6 Z)<|ad 14 Z (bv c.toNat ju jx Z Z (by omega) hdg)<|ad 15 Z (bK ji Z Zt Z Z)<|ad 16 Z (e9 Y9 Z)<|ad 17 Z (Gv.lenM Z0 Z)<|aQ 18 Z<|zh (ii f hE hf hvv c d.insts.length hcr.1 hcr.2) Z<|z6<|ad 19 Z (Gv.not Z)<|bI<|zy Z (fun cq=>?_) (fun cq=>?_)
       ·have hq:eF f (aL f v) c (fE f c)=false:=by rw[hla];simpa using cq
        refine ai<|ab Z<|z6<|zg<|zn (x:=.bool _) Z ?_
        rw[oN hi2 hget (by unfold ov;rw[show b.phis.all (Hd f)=false from Bool.eq_false_iff.2 (df hj2 (by rw[hp];unfold Hd;exact Bool.eq_false_iff.2 (df hz (by rw[hzk];exact hq))))];simp)]
       ·have hq:eF f (aL f v) c (fE f c)=true:=by rw[hla];simpa using cq
        refine zi<|aW<|aE Z Z<|aa Z<|z6 ?_
        exact ⟨k+1,⟨rfl,rfl,rfl,rfl,rfl,rfl,rfl,rfl,rfl,rfl,rfl,rfl,rfl,trivial⟩,aK,aH,⟨hk2,bJ hz hkall (by rw[hzk];exact hq)⟩,by omega⟩
      ·have hkn:k=p.args.length:=by simp at ck;omega
       have hzl:(p.args.zip p.from_).length=p.args.length:=by rw[List.length_zip];omega
       rw[hkn,←hzl,qy] at hkall
       refine y6<|aW<|aE Z Z<|aa Z<|z6 ?_
       exact ⟨j+1,sY,aK,aH,⟨hj2,bJ hj2 hjall (by rw[hp];exact hkall)⟩,by omega⟩
     ·have hjn:j=b.phis.length:=by simp at cjj;omega
      subst hjn
      rw[qy] at hjall
      refine y6<|zd<|ai<|au ji Z Zt Z Z<|aI Y9 Z<|aq Z0 Z<|aa Z<|z6<|zm<|y8 (γ:=Nat) [1,3,6,7,45,46,47,95,96] (fun k=>[(97,.int .i64 k)]) (fun k=>[]) (fun k=>k≤b.insts.length∧((b.insts.zipIdx).take k).all (He f i)=true) (fun k=>b.insts.length - k) 0 aK aH (⟨qw _,Z⟩) ?_
      rintro k ⟨hk,hkall⟩
      refine ai<|ay Z Z<|z6<|zd<|zt Z (fun ck=>?_) (fun ck=>?_)
      ·have hk2:k<b.insts.length:=by simp at ck;omega
       obtain ⟨z,hzk⟩:∃z,b.insts[k]=z:=⟨_,rfl⟩
       have hzm:z∈b.insts:=hzk▸qx hk2
       have hI:=gN (hIn z hzm)
       have hzl:=hb4 z hzm
       have hzi:k<b.insts.zipIdx.length:=by simp;exact hk2
       have hze:b.insts.zipIdx[k]=(z,k):=by simp[hzk]
       refine zi<|zd<|zm<|ai<|aa Z<|za (bv k Z0 jy Z Z Z (by rw[qt hk2,hzk])) ?_
       refine ae Zz jy Z Z<|y7 (cs:=[.int .i64 0,.int .i64 0,.raw (.slice none 0 0),.int .i64 0]) Zh Z Z<|fun i13=>ao Z<|y1 jy Z Z Z Z Z Z .head Z<|ze (yd (t:=13) Z .head)<|z6<|ai<|au j5 Z j7 Z Z<|aI jf Z<|aq wy Z<|aa Z<|z6<|zm<|y8 (γ:=Nat) [1,3,6,7,12,45,46,47,95,96,97,103,104] (fun m=>[(105,.int .i64 m)]) (fun m=>[]) (fun m=>m≤z.args.length∧(z.args.take m).all (fun v=>eF f (aL f v) i k)=true) (fun m=>z.args.length - m) 0 aK aH (⟨qw _,Z⟩) ?_
       rintro m ⟨hm,hmall⟩
       refine ai<|ay Z Z<|z6<|zd<|zt Z (fun cm=>?_) (fun cm=>?_)
       ·have hm2:m<z.args.length:=by simp at cm;omega
        obtain ⟨v,hv⟩:∃v,z.args[m]=v:=⟨_,rfl⟩
        have hvv:=hI.args v (hv▸qx hm2)
        refine zi<|zd<|zm<|ai<|za (bv m wy wz Z Z Z (by rw[qt hm2,hv])) ?_
        refine aA j6 Z<|ao Z<|z6<|ai<|ae jv jj Z Z<|aa Z<|aa Z<|aa Z<|zh (ii f hE hf hvv (i:Int) (k:Int) (by omega) (by omega)) Z<|aC Z<|z6<|zy Z (fun cq=>?_) (fun cq=>?_)
        ·have hq:eF f (aL f v) i k=false:=by simpa using cq
         refine ai<|ab Z<|z6<|zg<|zn (x:=.bool _) Z ?_
         rw[oN hi2 hget (by unfold ov;rw[show b.insts.zipIdx.all (He f i)=false from Bool.eq_false_iff.2 (df hzi (by rw[hze];unfold He;exact Bool.eq_false_iff.2 (df hm2 (by rw[hv];exact hq))))];simp)]
        ·have hq:eF f (aL f v) i k=true:=by simpa using cq
         refine zi<|aW<|aE Z Z<|aa Z<|z6 ?_
         exact ⟨m+1,⟨rfl,rfl,rfl,rfl,rfl,rfl,rfl,rfl,rfl,rfl,rfl,rfl,rfl,trivial⟩,aK,aH,⟨hm2,bJ hm2 hmall (by rw[hv];exact hq)⟩,by omega⟩
       ·have hmn:m=z.args.length:=by simp at cm;omega
        rw[hmn,qy] at hmall
        refine y6<|aW<|aE Z Z<|aa Z<|z6 ?_
        exact ⟨k+1,sY,aK,aH,⟨hk2,bJ hzi hkall (by rw[hze];exact hmall)⟩,by omega⟩
      ·have hkn:k=b.insts.length:=by simp at ck;omega
       rw[hkn,show b.insts.length=b.insts.zipIdx.length by simp,qy] at hkall
       refine y6<|ai<|au ji Z Zo Z Z<|au je Z Y0 Z Z<|aA Ye Z<|aO Z Z<|aj Z<|zq (s:=121) Z (fun c0=>?_) (fun c0=>?_)
       ·have d0:¬b.term.kind=0:=by simpa using c0
        refine z8 Z Z c0<|ae jv jj Z Z<|z8 Z Z c0<|au ji Z Zo Z Z<|z8 Z Z c0<|au je Z wz Z Z<|z8 Z Z c0<|aA j6 Z<|z8 Z Z c0<|aa Z<|z8 Z Z c0<|au ji Z Zt Z Z<|z8 Z Z c0<|aI Y9 Z<|z8 Z Z c0<|aq Z0 Z<|z8 Z Z c0<|zh (ii f hE hf (hZ hTm d0) (i:Int) (b.insts.length:Int) (by omega) (by omega)) Z<|z8 Z Z c0<|aC Z<|aw Z c0 Z<|z6<|zy Z (fun cq=>?_) (fun cq=>?_)
        ·have hq:eF f (aL f b.term.var) i b.insts.length=false:=by simpa using cq
         refine ai<|ab Z<|z6<|zg<|zn (x:=.bool _) Z ?_
         rw[oN hi2 hget (by unfold ov Hf;rw[hq,w9 d0];simp)]
        ·have hq:eF f (aL f b.term.var) i b.insts.length=true:=by simpa using cq
         refine zi<|aW<|aE Z Z<|aa Z<|z6 ?_
         exact ⟨i+1,gH,aK,aH,⟨hi2,cM hiall (by rw[nm hget];unfold ov Hf;rw[hjall,hkall,hq];simp[dr])⟩,by omega⟩
       ·have d0:b.term.kind=0:=by simpa using c0
        refine z7 Z Z c0<|z7 Z Z c0<|z7 Z Z c0<|z7 Z Z c0<|z7 Z Z c0<|z7 Z Z c0<|z7 Z Z c0<|z7 Z Z c0<|z7 Z Z c0<|z7 Z Z c0<|ax Z c0 Z<|z6<|yg Z Z<|zi<|aW<|aE Z Z<|aa Z<|z6 ?_
        exact ⟨i+1,gH,aK,aH,⟨hi2,cM hiall (by rw[nm hget];unfold ov Hf;rw[hjall,hkall,d0];simp[dr])⟩,by omega⟩
   ·have hin:i=f.blocks.length:=by simp at ci;omega
    subst hin
    refine y6<|ai<|ab Z<|z6<|zg<|zn (x:=.bool _) Z ?_
    rw[show iV f=true by unfold iV;rw[dj,donce,hiall];rfl]
end Go.Proofs.YtdilpodccjlkgaaGreatDoor
namespace Go.Proofs.YtdilpodccjlkgaaGreatDoor
open Go.Proofs.Tryz
open Go.Proofs Go.Lib Go.Shelf Go.RowKit
variable {E:World}
set_option maxRecDepth 20000
theorem fQ (f:ac) (v:Int) (hv:bc f v=true):aM prog E 123 [.agg (bE f),.int .i64 v] (.int .i64 (bg f v)):=by
 obtain ⟨x,hx,hv2,hk⟩:=kL hv
 rw[hk]
 refine zp func123 Z (by decide) Z<|ai<|ya (cs:=_) Z Z Z<|ao Z<|z6<|ai<|au jg Z Yc Z Z<|aI Yn Z<|aa Z<|za (bv v.toNat Z9 Yd Z Z hv2 hx)<|au Zm Z X2 Z Z<|aA Xh Z<|ao Z<|z6<|zg<|zn (x:=.int _ _) Z ?_
 rfl
theorem qZ (c:Int):aM prog E 124 [.int .u8 c] (.int .i64 (ei c)):=by
 refine zp func124 Z (by decide) Z<|ai<|ao Z<|z6<|zd<|ai<|aa Z<|z6<|zm<|ai<|ak Z Z<|ab Z<|z6<|zy Z (fun c1=>?_) (fun c1=>?_)
 ·refine ai<|ao Z<|z6<|zg<|zn (x:=.int _ _) Z ?_
  unfold ei;simp_all
 ·refine ai<|ak Z Z<|ab Z<|z6<|zy Z (fun c2=>?_) (fun c2=>?_)
  ·refine ai<|ao Z<|z6<|zg<|zn (x:=.int _ _) Z ?_
   unfold ei;simp_all
  ·refine zi<|ai<|ao Z<|z6<|zg<|zn (x:=.int _ _) Z ?_
   unfold ei;simp_all
theorem BL:∀j:Nat,j<27→decide ((bY (j:Int)).1=⟨#[99,111,112,121]⟩)=decide (j=1):=by decide
theorem oO {op:Int} (h:0≤op∧op≤26):((bY op).1=⟨#[99,111,112,121]⟩)↔op=1:=by
 have h1:=BL op.toNat (by omega)
 rw[wc h.1] at h1
 constructor
 ·intro e
  have:decide (op.toNat=1)=true:=by rw[←h1];exact w8 e
  have:=wd this
  omega
 ·intro e
  have h2:op.toNat=1:=by omega
  have:decide ((bY op).1=⟨#[99,111,112,121]⟩)=true:=by rw[h1];exact w8 h2
  exact wd this
theorem re {op:Int} (h:0≤op∧op≤26):gI[op.toNat]?=some (bY op):=by
 unfold bY
 have hl:op.toNat<gI.length:=by have:gI.length=27:=rfl;omega
 rw[if_pos h.1,qt hl];rfl
def gM (f:ac) (x:aF):List Int:=if x.op=1 then[bg f x.dst] else bb x.op
theorem BM {f:ac} {x:aF} (h:bM f x):x.args.length=(gM f x).length:=by
 rw[h.len]
 unfold gM
 split
 ·rename_i e;rw[e];rfl
 ·rfl
theorem rg {f:ac} {x:aF} (h:bM f x):dN f x=(decide (x.args.map (bg f)=gM f x)&&(!cR x.op||(decide (x.op=1)||decide (bg f x.dst=fd x.op)))):=by
 unfold dN gM
 by_cases e:x.op=1
 ·have hl:=h.len
  rw[e,show (bb 1).length=1 from rfl] at hl
  obtain ⟨a,ha⟩:=List.length_eq_one_iff.1 hl
  rw[if_pos e,if_pos e,ha]
  simp[e]
  exact eq_comm
 ·rw[if_neg e,if_neg e];simp[e]
theorem xU {op:Int} {m:Nat} (h:m<(bb op).length):∃c:UInt8,(bY op).2.1.data[m]?=some c∧(bb op)[m]=ei (c.toNat:Int):=by
 have h1:m<(bY op).2.1.data.size:=by rw[nh] at h;exact h
 have e:(bb op)[m]?=((bY op).2.1.data.toList[m]?).map fun b=>ei b.toNat:=by unfold bb;rw[w2]
 rw[qt h,Array.getElem?_toList,Array.getElem?_eq_getElem h1] at e
 exact ⟨(bY op).2.1.data[m],by rw[Array.getElem?_eq_getElem h1],by simpa using e⟩
theorem xV {op:Int} (h:¬(bY op).2.2=⟨#[]⟩):∃c:UInt8,(bY op).2.2.data[0]?=some c∧fd op=ei (c.toNat:Int):=by
 unfold fd
 generalize (bY op).2.2=m at h ⊢
 obtain ⟨⟨l⟩⟩:=m
 cases l with
 |nil=>exact absurd rfl h
 |cons c l=>exact ⟨c,by simp,rfl⟩
end Go.Proofs.YtdilpodccjlkgaaGreatDoor
