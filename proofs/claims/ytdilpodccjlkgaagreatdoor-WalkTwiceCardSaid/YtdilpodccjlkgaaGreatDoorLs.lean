/- The document's typed; the laws' typed, single and plain. Of programs that are little. -/
import Derived.Test.YtdilpodccjlkgaaGreatDoorLr
set_option linter.unusedVariables false
set_option linter.unusedSimpArgs false
set_option linter.unusedSectionVars false
namespace Go.Proofs.YtdilpodccjlkgaaGreatDoor
open Go.Proofs.Tryz
open Go.Proofs Go.Lib Go.Shelf Go.RowKit
variable {E:World}
set_option maxRecDepth 20000
theorem vZ {f:ad} (hE:bE f) (i:Nat) (p:eJ):AU f i p=true↔vy f i p.from_:=by
 unfold AU
 rw[w1,lV,wD hE]
theorem uX {l:List Int} (hn:l.Nodup) {i:Int} (h:i∈l):(l.filter fun c=>decide (c=i))=[i]:=by
 induction l with
 |nil=>cases h
 |cons c l ih=>
  obtain ⟨h1,h2⟩:=List.nodup_cons.1 hn
  by_cases e:c=i
  ·subst e
   have:(l.filter fun x=>decide (x=c))=[]:=List.filter_eq_nil_iff.2 fun x hx=>by
    simp only[w1];rintro rfl;exact h1 hx
   simp[this]
  ·rw[List.filter_cons_of_neg (by simpa using e)]
   rcases List.mem_cons.1 h with h3|h3
   ·exact absurd h3.symm e
   ·exact ih h2 h3
theorem uY {f:ad} (k:Nat) (i:Int):(ba (ae f) (k+1) i).length=(ba (ae f) k i).length+if i∈ae f k then 1 else 0:=by
 rw[jG,qo,qp]
 have hn:=iv f k
 congr 1
 by_cases h:i∈ae f k
 ·rw[if_pos h]
  have h1:=uX hn h
  rw[h1];rfl
 ·rw[if_neg h]
  have h1:((ae f k).filter fun c=>decide (c=i))=[]:=List.filter_eq_nil_iff.2 fun c hc=>by
   simp only[w1];rintro rfl;exact h hc
  rw[h1];rfl
set_option maxHeartbeats 4000000 in
theorem oE (f:ad) (hE:bE f) (hf:small f) (hS:bz f):aI prog E 78 [.agg (bD f)] (.bool (cH f)):=by
 have hn:=hf.2.2.1
 refine zo func78 Z (by decide) Z<|ah<|ya (cs:=_) Z Z Z<|ab Z<|z6<|zd<|ah<|aq je Z Z0 Z Z<|aH Zb Z<|ap ji Z<|aa Z<|z6<|zj<|y8 (γ:=Nat) [1,13,14] (fun i=>[(15,.int .i64 i)]) (fun i=>[]) (fun i=>i≤f.blocks.length∧(List.range i).all (zH f)=true) (fun i=>f.blocks.length - i) 0 aJ aE (⟨ql _,Z⟩) ?_
 rintro i ⟨hi,hall⟩
 refine ah<|aw Z Z<|z6<|zd<|zw Z (fun ci=>?_) (fun ci=>?_)
 ·have hi2:i<f.blocks.length:=by simp at ci;omega
  obtain ⟨b,hbi⟩:∃b,f.blocks[i]=b:=⟨_,rfl⟩
  have hget:f.blocks[i]?=some b:=by rw[qi hi2,hbi]
  have hmem:b∈f.blocks:=hbi▸qm hi2
  obtain ⟨hb0,hb1,hb2,hb3,hb4⟩:=hf.2.2.2.2 b hmem
  have hPh:=(hS.2.2.2.2.2 b hmem).1
  refine zg<|zd<|zj<|ah<|aa Z<|za (bx i ji ju Z Z Z hget)<|ac Y4 ju Z Z<|y5 (cs:=[.str ⟨#[]⟩,.raw (.slice none 0 0),.raw (.slice none 0 0),.int .i64 0,.int .i64 0,.int .i64 0,.int .i64 0]) Zc Z Z<|fun i4=>ao Z<|zz ju Z Z Z Z Z Z .head Z<|ze (yd (t:=4) Z .head)<|z6<|ah<|aq jg Z Y9 Z Z<|aH Yj Z<|ap jz Z<|aa Z<|z6<|zj<|y8 (γ:=Nat) [1,3,13,14,15,21,22] (fun j=>[(23,.int .i64 j)]) (fun j=>[]) (fun j=>j≤b.phis.length∧(b.phis.take j).all (AU f i)=true) (fun j=>b.phis.length - j) 0 aJ aE (⟨ql _,Z⟩) ?_
  rintro j ⟨hj,hjall⟩
  refine ah<|aw Z Z<|z6<|zd<|zw Z (fun cj=>?_) (fun cj=>?_)
  ·have hj2:j<b.phis.length:=by simp at cj;omega
   obtain ⟨p,hp⟩:∃p,b.phis[j]=p:=⟨_,rfl⟩
   have hpm:p∈b.phis:=hp▸qm hj2
   have hpl:=(hb3 p hpm).2
   have hpr:∀c∈p.from_,0≤c∧c<f.blocks.length:=fun c hc=>by have:=List.all_eq_true.1 (hPh p hpm).2.2.2.2 c hc;simpa [dV] using this
   have hbad:¬vy f i p.from_→cH f=false:=fun h=>dq hi2 (by rw[kg hget];exact Bool.eq_false_iff.2 (cG hj2 (by rw[hp];exact Bool.eq_false_iff.2 fun h2=>h ((vZ hE i p).1 h2))))
   refine zg<|zd<|zj<|ah<|za (bx j jz Z8 Z Z Z (by rw[qi hj2,hp])) ?_
   refine ac Yo Z8 Z Z<|y5 (cs:=[.int .i64 0,.raw (.slice none 0 0),.raw (.slice none 0 0)]) Y6 Z Z<|fun i6=>zz Z8 Z Z Z Z Z Z .head Z<|ze (yd (t:=6) Z .head)<|z6<|ah<|ao Z<|z6<|zd<|ah<|aq je Z Z0 Z Z<|aH Zb Z<|ap ji Z<|aa Z<|z6<|zj<|y8 (γ:=Nat) [1,3,6,13,14,15,21,22,23,29] (fun a=>[(30,.int .i64 a),(7,.int .i64 (ba (ae f) a i).length)]) (fun a=>[]) (fun a=>a≤f.blocks.length) (fun a=>f.blocks.length - a) 0 eZ aE (ql _) ?_
   rintro a ha
   refine ah<|aw Z Z<|z6<|zd<|zw Z (fun ca=>?_) (fun ca=>?_)
   ·have ha2:a<f.blocks.length:=by simp at ca;omega
    have hone:=uY (f:=f) a i
    have hle:=gp f i a
    refine zg<|zd<|zj<|ah<|aa Z<|ao Z<|z6<|ah<|ac jj jh Z Z<|aa Z<|aa Z<|zf (k7 f hn (a:Int) (i:Int) (by omega) (by omega)) Z<|z6<|zu Z (fun cl=>?_) (fun cl=>?_)
    ·have hl:(i:Int)∈ae f a:=by simpa using cl
     rw[if_pos hl] at hone
     refine aV<|aa Z<|aC Z Z<|ao Z<|z6<|aV<|aC Z Z<|aa Z<|z6 ?_
     exact ⟨a+1,o5,⟨rfl,(by rw[hone];rfl),trivial⟩,aE,ha2,by omega⟩
    ·have hl:¬(i:Int)∈ae f a:=by simpa using cl
     rw[if_neg hl] at hone
     refine zg<|aV<|aC Z Z<|aa Z<|z6 ?_
     exact ⟨a+1,o5,⟨rfl,(by rw[hone];rfl),trivial⟩,aE,ha2,by omega⟩
   ·have han:a=f.blocks.length:=by simp at ca;omega
    subst han
    refine y7<|zd<|ah<|aa Z<|aq jx Z j5 Z Z<|aH j9 Z<|ap wx Z<|aL Z Z<|z6<|zu Z (fun cn=>?_) (fun cn=>?_)
    ·have hne:¬(ba (ae f) f.blocks.length i).length=p.from_.length:=by have h0:¬((ba (ae f) f.blocks.length i).length:Int)=(p.from_.length:Int):=(by simpa using cn);omega
     refine ah<|ab Z<|z6<|zh<|zk (x:=.bool _) Z ?_
     rw[hbad fun h=>hne h.1]
    ·have hne:(ba (ae f) f.blocks.length i).length=p.from_.length:=by have h0:((ba (ae f) f.blocks.length i).length:Int)=(p.from_.length:Int):=(by simpa using cn);omega
     refine zg<|ah<|aq jx Z j5 Z Z<|aH j9 Z<|ap wx Z<|aa Z<|z6<|zj<|y8 (γ:=Nat) [1,3,6,13,14,15,21,22,23,46,47] (fun k=>[(48,.int .i64 k)]) (fun k=>[]) (fun k=>k≤p.from_.length∧∀q (h:q<p.from_.length),q<k→(i:Int)∈ae f p.from_[q]∧p.from_[q] ∉ p.from_.take q) (fun k=>p.from_.length - k) 0 aJ aE (⟨ql _,fun q h h2=>by omega⟩) ?_
     rintro k ⟨hk,hok⟩
     refine ah<|aw Z Z<|z6<|zd<|zw Z (fun ck=>?_) (fun ck=>?_)
     ·have hk2:k<p.from_.length:=by simp at ck;omega
      obtain ⟨c,hc⟩:∃c,p.from_[k]=c:=⟨_,rfl⟩
      obtain ⟨hc0,hcn⟩:=hpr c (hc▸qm hk2)
      refine zg<|zd<|zj<|ah<|aa Z<|za (bx k wx wz Z Z Z (by rw[qi hk2,hc])) ?_
      refine ay j6 Z<|ao Z<|ao Z<|z6<|zd<|ah<|ac jj jh Z Z<|aa Z<|aa Z<|zf (k7 f hn c (i:Int) hc0 hcn) Z<|aD Z<|z6<|zu Z (fun cl=>?_) (fun cl=>?_)
      ·have hl:¬(i:Int)∈ae f c:=by simpa using cl
       refine ah<|ab Z<|z6<|zh<|zk (x:=.bool _) Z ?_
       rw[hbad fun h=>hl (hc▸(h.2 k hk2).1)]
      ·have hl:(i:Int)∈ae f c:=by simpa using cl
       refine zg<|ah<|aa Z<|aa Z<|z6<|zj<|y8 (γ:=Nat) [1,3,6,10,13,14,15,21,22,23,46,47,48,58] (fun q=>[(59,.int .i64 q)]) (fun q=>[]) (fun q=>q≤k∧c ∉ p.from_.take q) (fun q=>k - q) 0 aJ aE (⟨ql _,by simp⟩) ?_
       rintro q ⟨hq,hqn⟩
       refine ah<|aw Z Z<|z6<|zd<|zw Z (fun cq=>?_) (fun cq=>?_)
       ·have hq2:q<k:=by omega
        have hq3:q<p.from_.length:=by omega
        refine zg<|zd<|zj<|ah<|aa Z<|ao Z<|z6<|ah<|aq jx Z j5 Z Z<|aH j9 Z<|aa Z<|za (bx q wx wz Z Z Z (qi hq3))<|ay j6 Z<|aa Z<|ak Z Z<|z6<|zu Z (fun ce=>?_) (fun ce=>?_)
        ·have he:p.from_[q]=c:=by simpa using ce
         have hin:c∈p.from_.take k:=by rw[←he];exact List.mem_take_iff_getElem.2 ⟨q,by omega,rfl⟩
         refine ah<|ab Z<|z6<|zh<|zk (x:=.bool _) Z ?_
         rw[hbad fun h=>(h.2 k hk2).2 (by rw[hc];exact hin)]
        ·have he:¬p.from_[q]=c:=by simpa using ce
         refine zg<|aV<|aC Z Z<|aa Z<|z6 ?_
         exact ⟨q+1,⟨rfl,rfl,rfl,rfl,rfl,rfl,rfl,rfl,rfl,rfl,rfl,rfl,rfl,rfl,trivial⟩,aJ,aE,⟨hq2,fun hm=>by rw[qj hq3] at hm;rcases List.mem_append.1 hm with h1|h1;exact hqn h1;simp at h1;exact he h1.symm⟩,by omega⟩
       ·have hqn2:q=k:=by omega
        subst hqn2
        refine y7<|aV<|aC Z Z<|aa Z<|z6 ?_
        exact ⟨q+1,⟨rfl,rfl,rfl,rfl,rfl,rfl,rfl,rfl,rfl,rfl,rfl,trivial⟩,aJ,aE,⟨hk2,fun r hr h2=>by rcases Nat.lt_succ_iff_lt_or_eq.1 h2 with h3|h3;exact hok r hr h3;subst h3;rw[hc];exact ⟨hl,hqn⟩⟩,by omega⟩
     ·have hkn:k=p.from_.length:=by simp at ck;omega
      subst hkn
      refine y7<|aV<|aC Z Z<|aa Z<|z6 ?_
      exact ⟨j+1,kA,aJ,aE,⟨hj2,bt hj2 hjall (by rw[hp];exact (vZ hE i p).2 ⟨hne,fun q hq=>hok q hq hq⟩)⟩,by omega⟩
  ·have hjn:j=b.phis.length:=by simp at cj;omega
   subst hjn
   rw[qn] at hjall
   refine y7<|aV<|aC Z Z<|aa Z<|z6 ?_
   exact ⟨i+1,dy,aJ,aE,⟨hi2,bW hall (by rw[kg hget];exact hjall)⟩,by omega⟩
 ·have hin:i=f.blocks.length:=by simp at ci;omega
  subst hin
  refine y7<|ah<|ab Z<|z6<|zh<|zk (x:=.bool _) Z ?_
  rw[show cH f=true from hall]
end Go.Proofs.YtdilpodccjlkgaaGreatDoor
namespace Go.Proofs.YtdilpodccjlkgaaGreatDoor
open Go.Proofs.Tryz
open Go.Proofs Go.Lib Go.Shelf Go.RowKit
variable {E:World}
set_option maxRecDepth 20000
theorem AA {f:ad} {v:Int} (h:aT f v=true):∃k:Nat,v=(k:Int)∧k<f.vars.length:=by
 have h1:0≤v∧v<f.vars.length:=by simpa [aT] using h
 exact ⟨v.toNat,by omega,by omega⟩
theorem gD (f:ad) (hE:bE f) (hf:small f) {v:Int} (hv:aT f v=true) (b a:Int) (h0:0≤b) (hb:b<f.blocks.length):aI prog E 80 [.agg (bD f),.int .i64 v,.int .i64 b,.int .i64 a] (.bool (dW f (aF f v) b a)):=by
 obtain ⟨k,rfl,hk⟩:=AA hv
 exact pg f hE hf k b a h0 hb
theorem nd {f:ad} {i:Nat} {b:aN} (hi:i<f.blocks.length) (hg:f.blocks[i]?=some b) (h:mS f i b=false):g9 f=false:=by
 unfold g9;rw[dq hi (by rw[l5 hg];exact h)];simp
set_option maxHeartbeats 8000000 in
theorem oF (f:ad) (hE:bE f) (hf:small f) (hS:bz f):aI prog E 40 [.agg (bD f)] (.bool (g9 f)):=by
 have hn:=hf.2.2.1
 have hv:=hf.1
 have hG:=hE.grph
 refine zo func40 Z (by decide) Z<|ah<|ya (cs:=_) Z Z Z<|ab Z<|z6<|zd<|ah<|ac jj jh Z Z<|zf (oE f hE hf hS) Z<|aD Z<|z6<|zu Z (fun cj=>?_) (fun cj=>?_)
 ·have dj:cH f=false:=by simpa using cj
  refine ah<|ab Z<|z6<|zh<|zk (x:=.bool _) Z ?_
  rw[show g9 f=false by unfold g9;rw[dj];rfl]
 ·have dj:cH f=true:=by simpa using cj
  refine zg<|ah<|ac jj jh Z Z<|zf (lH f hE hn (-1)) Z<|za (oP Z)<|z6<|zd<|ah<|aq je Z Y5 Z Z<|aH Yg Z<|ap Z6 Z<|aa Z<|z6<|zj<|y8 (γ:=Nat) [1,3,23] (fun v=>[(24,.int .i64 v)]) (fun v=>[]) (fun v=>v≤f.vars.length∧(List.range v).all (gZ f)=true) (fun v=>f.vars.length - v) 0 aJ aE (⟨ql _,Z⟩) ?_
  rintro v ⟨hvl,hall⟩
  refine ah<|aw Z Z<|z6<|zd<|zw Z (fun cv=>?_) (fun cv=>?_)
  ·have hv2:v<f.vars.length:=by simp at cv;omega
   have hbad:gZ f v=false→g9 f=false:=fun h=>by unfold g9;rw[show kD f=false from dq hv2 h];simp
   refine zg<|zd<|zj<|ah<|aa Z<|ao Z<|z6<|ah<|ac jj jh Z Z<|aa Z<|zf (mX f hf v) Z<|ao Z<|z6<|ah<|aa Z<|za (yx Z Z)<|ai Z<|zp (s:=32) Z (fun c1=>?_) (fun c1=>?_)
   ·have d1:1<(aZ f v).length:=by have h0:(1:Int)<((aZ f v).length:Int):=(by simpa using c1);omega
    refine z7 Z Z c1<|z7 Z Z c1<|z7 Z Z c1<|zi Z Z<|zi Z Z<|zi Z Z<|zi Z Z<|zi Z Z<|z7 Z Z c1<|ar Z c1 Z<|z6<|yl Z Z<|ah<|ab Z<|z6<|zh<|zk (x:=.bool _) Z ?_
    rw[hbad (by unfold gZ;simp[d1])]
   ·have d1:¬1<(aZ f v).length:=by have h0:¬(1:Int)<((aZ f v).length:Int):=(by simpa using c1);omega
    refine z8 Z Z c1<|aa Z<|z8 Z Z c1<|za (yx Z Z)<|z8 Z Z c1<|ai Z<|zp (s:=35) Z (fun c2=>?_) (fun c2=>?_)
    ·have d2:0<(aZ f v).length:=by have h0:(0:Int)<((aZ f v).length:Int):=(by simpa using c2);omega
     refine z8 Z Z c2<|aa Z<|z8 Z Z c2<|aq je Z j5 Z Z<|z8 Z Z c2<|aH j9 Z<|z8 Z Z c2<|ap wx Z<|z8 Z Z c2<|aw Z Z<|z8 Z Z c1<|ar Z c2 Z<|au Z c1 Z<|z6<|zu Z (fun c3=>?_) (fun c3=>?_)
     ·have d3:v<f.params.length:=by simpa using c3
      refine ah<|ab Z<|z6<|zh<|zk (x:=.bool _) Z ?_
      rw[hbad (by unfold gZ;rw[qv d2,qv d3];simp)]
     ·have d3:¬v<f.params.length:=by simpa using c3
      refine zg<|aV<|aC Z Z<|aa Z<|z6 ?_
      exact ⟨v+1,dy,aJ,aE,⟨hv2,bW hall (by unfold gZ;rw[qw d1,qw d3];simp)⟩,by omega⟩
    ·have d2:¬0<(aZ f v).length:=by have h0:¬(0:Int)<((aZ f v).length:Int):=(by simpa using c2);omega
     refine z7 Z Z c2<|z7 Z Z c2<|z7 Z Z c2<|z7 Z Z c2<|z7 Z Z c2<|z8 Z Z c1<|au Z c2 Z<|au Z c1 Z<|z6<|ye Z Z<|zg<|aV<|aC Z Z<|aa Z<|z6 ?_
     exact ⟨v+1,dy,aJ,aE,⟨hv2,bW hall (by unfold gZ;rw[qw d1,qw d2];rfl)⟩,by omega⟩
  ·have hvn:v=f.vars.length:=by simp at cv;omega
   subst hvn
   have donce:kD f=true:=hall
   refine y7<|zd<|ah<|aq je Z Z0 Z Z<|aH Zb Z<|ap ji Z<|aa Z<|z6<|zj<|y8 (γ:=Nat) [1,3,45,46] (fun i=>[(47,.int .i64 i)]) (fun i=>[]) (fun i=>i≤f.blocks.length∧(List.range i).all (DH f)=true) (fun i=>f.blocks.length - i) 0 aJ aE (⟨ql _,Z⟩) ?_
   rintro i ⟨hi,hiall⟩
   refine ah<|aw Z Z<|z6<|zd<|zw Z (fun ci=>?_) (fun ci=>?_)
   ·have hi2:i<f.blocks.length:=by simp at ci;omega
    obtain ⟨b,hbi⟩:∃b,f.blocks[i]=b:=⟨_,rfl⟩
    have hget:f.blocks[i]?=some b:=by rw[qi hi2,hbi]
    have hmem:b∈f.blocks:=hbi▸qm hi2
    obtain ⟨hb0,hb1,hb2,hb3,hb4⟩:=hf.2.2.2.2 b hmem
    obtain ⟨hPh,hIn,hTm⟩:=hS.2.2.2.2.2 b hmem
    have hth:=kY (E:=ae f) (shut:=-1) hi2
    refine zg<|zd<|zj<|ah<|aa Z<|za (bx i ji ju Z Z Z hget)<|ac Y4 ju Z Z<|y5 (cs:=[.str ⟨#[]⟩,.raw (.slice none 0 0),.raw (.slice none 0 0),.int .i64 0,.int .i64 0,.int .i64 0,.int .i64 0]) Zc Z Z<|fun i7=>ao Z<|zz ju Z Z Z Z Z Z .head Z<|ze (yd (t:=7) Z .head)<|z6<|zd<|ah<|bb Z<|aa Z<|za (bx i Z1 Zj Z Z Z hth)<|za (yo (c:=.bool _) Yh Z)<|aD Z<|z6<|zu Z (fun cr=>?_) (fun cr=>?_)
    ·have dr:¬rI (ae f) (i:Int):=fun h=>by simp at cr;exact cr ((vw hG).2 h)
     refine ah<|ab Z<|z6<|zh<|zk (x:=.bool _) Z ?_
     rw[nd hi2 hget (by unfold mS;simp[dr])]
    ·have dr:rI (ae f) (i:Int):=by simp at cr;exact (vw hG).1 cr
     refine zg<|zd<|ah<|aq jg Z Y9 Z Z<|aH Yj Z<|ap jz Z<|aa Z<|z6<|zj<|y8 (γ:=Nat) [1,3,6,7,45,46,47,58,59] (fun j=>[(60,.int .i64 j)]) (fun j=>[]) (fun j=>j≤b.phis.length∧(b.phis.take j).all (DE f)=true) (fun j=>b.phis.length - j) 0 aJ aE (⟨ql _,Z⟩) ?_
     rintro j ⟨hj,hjall⟩
     refine ah<|aw Z Z<|z6<|zd<|zw Z (fun cjj=>?_) (fun cjj=>?_)
     ·have hj2:j<b.phis.length:=by simp at cjj;omega
      obtain ⟨p,hp⟩:∃p,b.phis[j]=p:=⟨_,rfl⟩
      have hpm:p∈b.phis:=hp▸qm hj2
      obtain ⟨hpd,hpl,hpn,hpa,hpf⟩:=hPh p hpm
      have hpb:=hb3 p hpm
      refine zg<|zd<|zj<|ah<|za (bx j jz Z8 Z Z Z (by rw[qi hj2,hp])) ?_
      refine ac Yo Z8 Z Z<|y5 (cs:=[.int .i64 0,.raw (.slice none 0 0),.raw (.slice none 0 0)]) Y6 Z Z<|fun i9=>zz Z8 Z Z Z Z Z Z .head Z<|ze (yd (t:=9) Z .head)<|z6<|ah<|aq jx Z j5 Z Z<|aH j9 Z<|ap wx Z<|aa Z<|z6<|zj<|y8 (γ:=Nat) [1,3,6,7,9,45,46,47,58,59,60,65,66] (fun k=>[(67,.int .i64 k)]) (fun k=>[]) (fun k=>k≤p.args.length∧((p.args.zip p.from_).take k).all (fun q=>dW f (aF f q.1) q.2 (fY f q.2))=true) (fun k=>p.args.length - k) 0 aJ aE (⟨ql _,Z⟩) ?_
      rintro k ⟨hk,hkall⟩
      refine ah<|aw Z Z<|z6<|zd<|zw Z (fun ck=>?_) (fun ck=>?_)
      ·have hk2:k<p.args.length:=by simp at ck;omega
       have hk3:k<p.from_.length:=by omega
       obtain ⟨v,hv⟩:∃v,p.args[k]=v:=⟨_,rfl⟩
       obtain ⟨c,hc⟩:∃c,p.from_[k]=c:=⟨_,rfl⟩
       have hvv:=List.all_eq_true.1 hpa v (hv▸qm hk2)
       have hcr:0≤c∧c<f.blocks.length:=by have:=List.all_eq_true.1 hpf c (hc▸qm hk3);simpa [dV] using this
       obtain ⟨d,hd⟩:∃d,f.blocks[c.toNat]'(by omega)=d:=⟨_,rfl⟩
       have hdg:f.blocks[c.toNat]?=some d:=by rw[qi (by omega),hd]
       have hla:fY f c=d.insts.length:=by unfold fY;rw[hdg];rfl
       have hz:k<(p.args.zip p.from_).length:=by rw[List.length_zip];omega
       have hzk:(p.args.zip p.from_)[k]=(v,c):=by rw[List.getElem_zip,hv,hc]
       refine zg<|zd<|zj<|ah<|aa Z<|za (bx k wx wz Z Z Z (by rw[qi hk2,hv])) ?_
       refine ay j6 Z<|ao Z<|ao Z<|z6<|zd<|zt (fun j=>false) (by kernel_rfl) Z (zm (.rest _))<|aj 0 Z (yt jj jh Z Z)<|aj 1 Z (dF Z)<|aj 2 Z (bK jx Z j5 Z Z)<|aj 3 Z (eH j9 Z)<|aj 4 Z (dF Z)<|aj 5 Z (bx k wx wz Z Z Z (by rw[qi hk3,hc])) ?_
       refine aj 6 Z (da j6 Z)<|aj 7 Z (bK je Z Z0 Z Z)<|aj 8 Z (eH Zb Z)<|aj 9 Z (bK jx Z j5 Z Z)<|aj 10 Z (eH j9 Z)<|aj 11 Z (dF Z)<|aj 12 Z (bx k wx wz Z Z Z (by rw[qi hk3,hc])) ?_
       refine aj 13 Z (da j6 Z)<|aj 14 Z (bx c.toNat ji ju Z Z (by omega) hdg)<|aj 15 Z (bK jg Z Zd Z Z)<|aj 16 Z (eH Zs Z)<|aj 17 Z (Gv.lenM jt Z)<|aY 18 Z<|zf (gD f hE hf hvv c d.insts.length hcr.1 hcr.2) Z<|z6<|aj 19 Z (Gv.not Z)<|bV<|zu Z (fun cq=>?_) (fun cq=>?_)
       ·have hq:dW f (aF f v) c (fY f c)=false:=by rw[hla];simpa using cq
        refine ah<|ab Z<|z6<|zh<|zk (x:=.bool _) Z ?_
        rw[nd hi2 hget (by unfold mS;rw[show b.phis.all (DE f)=false from Bool.eq_false_iff.2 (cG hj2 (by rw[hp];unfold DE;exact Bool.eq_false_iff.2 (cG hz (by rw[hzk];exact hq))))];simp)]
       ·have hq:dW f (aF f v) c (fY f c)=true:=by rw[hla];simpa using cq
        refine zg<|aV<|aC Z Z<|aa Z<|z6 ?_
        exact ⟨k+1,⟨rfl,rfl,rfl,rfl,rfl,rfl,rfl,rfl,rfl,rfl,rfl,rfl,rfl,trivial⟩,aJ,aE,⟨hk2,bt hz hkall (by rw[hzk];exact hq)⟩,by omega⟩
      ·have hkn:k=p.args.length:=by simp at ck;omega
       have hzl:(p.args.zip p.from_).length=p.args.length:=by rw[List.length_zip];omega
       rw[hkn,←hzl,qn] at hkall
       refine y7<|aV<|aC Z Z<|aa Z<|z6 ?_
       exact ⟨j+1,qE,aJ,aE,⟨hj2,bt hj2 hjall (by rw[hp];exact hkall)⟩,by omega⟩
     ·have hjn:j=b.phis.length:=by simp at cjj;omega
      subst hjn
      rw[qn] at hjall
      refine y7<|zd<|ah<|aq jg Z Zd Z Z<|aH Zs Z<|ap jt Z<|aa Z<|z6<|zj<|y8 (γ:=Nat) [1,3,6,7,45,46,47,95,96] (fun k=>[(97,.int .i64 k)]) (fun k=>[]) (fun k=>k≤b.insts.length∧((b.insts.zipIdx).take k).all (DF f i)=true) (fun k=>b.insts.length - k) 0 aJ aE (⟨ql _,Z⟩) ?_
      rintro k ⟨hk,hkall⟩
      refine ah<|aw Z Z<|z6<|zd<|zw Z (fun ck=>?_) (fun ck=>?_)
      ·have hk2:k<b.insts.length:=by simp at ck;omega
       obtain ⟨z,hzk⟩:∃z,b.insts[k]=z:=⟨_,rfl⟩
       have hzm:z∈b.insts:=hzk▸qm hk2
       have hI:=fK (hIn z hzm)
       have hzl:=hb4 z hzm
       have hzi:k<b.insts.zipIdx.length:=by simp;exact hk2
       have hze:b.insts.zipIdx[k]=(z,k):=by simp[hzk]
       refine zg<|zd<|zj<|ah<|aa Z<|za (bx k jt jk Z Z Z (by rw[qi hk2,hzk])) ?_
       refine ac Zn jk Z Z<|y5 (cs:=[.int .i64 0,.int .i64 0,.raw (.slice none 0 0),.int .i64 0]) Z5 Z Z<|fun i13=>ao Z<|zz jk Z Z Z Z Z Z .head Z<|ze (yd (t:=13) Z .head)<|z6<|ah<|aq wy Z j5 Z Z<|aH j9 Z<|ap wx Z<|aa Z<|z6<|zj<|y8 (γ:=Nat) [1,3,6,7,12,45,46,47,95,96,97,103,104] (fun m=>[(105,.int .i64 m)]) (fun m=>[]) (fun m=>m≤z.args.length∧(z.args.take m).all (fun v=>dW f (aF f v) i k)=true) (fun m=>z.args.length - m) 0 aJ aE (⟨ql _,Z⟩) ?_
       rintro m ⟨hm,hmall⟩
       refine ah<|aw Z Z<|z6<|zd<|zw Z (fun cm=>?_) (fun cm=>?_)
       ·have hm2:m<z.args.length:=by simp at cm;omega
        obtain ⟨v,hv⟩:∃v,z.args[m]=v:=⟨_,rfl⟩
        have hvv:=hI.args v (hv▸qm hm2)
        refine zg<|zd<|zj<|ah<|za (bx m wx wz Z Z Z (by rw[qi hm2,hv])) ?_
        refine ay j6 Z<|ao Z<|z6<|ah<|ac jj jh Z Z<|aa Z<|aa Z<|aa Z<|zf (gD f hE hf hvv (i:Int) (k:Int) (by omega) (by omega)) Z<|aD Z<|z6<|zu Z (fun cq=>?_) (fun cq=>?_)
        ·have hq:dW f (aF f v) i k=false:=by simpa using cq
         refine ah<|ab Z<|z6<|zh<|zk (x:=.bool _) Z ?_
         rw[nd hi2 hget (by unfold mS;rw[show b.insts.zipIdx.all (DF f i)=false from Bool.eq_false_iff.2 (cG hzi (by rw[hze];unfold DF;exact Bool.eq_false_iff.2 (cG hm2 (by rw[hv];exact hq))))];simp)]
        ·have hq:dW f (aF f v) i k=true:=by simpa using cq
         refine zg<|aV<|aC Z Z<|aa Z<|z6 ?_
         exact ⟨m+1,⟨rfl,rfl,rfl,rfl,rfl,rfl,rfl,rfl,rfl,rfl,rfl,rfl,rfl,trivial⟩,aJ,aE,⟨hm2,bt hm2 hmall (by rw[hv];exact hq)⟩,by omega⟩
       ·have hmn:m=z.args.length:=by simp at cm;omega
        rw[hmn,qn] at hmall
        refine y7<|aV<|aC Z Z<|aa Z<|z6 ?_
        exact ⟨k+1,qE,aJ,aE,⟨hk2,bt hzi hkall (by rw[hze];exact hmall)⟩,by omega⟩
      ·have hkn:k=b.insts.length:=by simp at ck;omega
       rw[hkn,show b.insts.length=b.insts.zipIdx.length by simp,qn] at hkall
       refine y7<|ah<|aq jg Z Zm Z Z<|aq j8 Z Zv Z Z<|ay Y3 Z<|aL Z Z<|ai Z<|zp (s:=121) Z (fun c0=>?_) (fun c0=>?_)
       ·have d0:¬b.term.kind=0:=by simpa using c0
        refine z8 Z Z c0<|ac jj jh Z Z<|z8 Z Z c0<|aq jg Z Zm Z Z<|z8 Z Z c0<|aq j8 Z wz Z Z<|z8 Z Z c0<|ay j6 Z<|z8 Z Z c0<|aa Z<|z8 Z Z c0<|aq jg Z Zd Z Z<|z8 Z Z c0<|aH Zs Z<|z8 Z Z c0<|ap jt Z<|z8 Z Z c0<|zf (gD f hE hf (gu hTm d0) (i:Int) (b.insts.length:Int) (by omega) (by omega)) Z<|z8 Z Z c0<|aD Z<|ar Z c0 Z<|z6<|zu Z (fun cq=>?_) (fun cq=>?_)
        ·have hq:dW f (aF f b.term.var) i b.insts.length=false:=by simpa using cq
         refine ah<|ab Z<|z6<|zh<|zk (x:=.bool _) Z ?_
         rw[nd hi2 hget (by unfold mS DG;rw[hq,qw d0];simp)]
        ·have hq:dW f (aF f b.term.var) i b.insts.length=true:=by simpa using cq
         refine zg<|aV<|aC Z Z<|aa Z<|z6 ?_
         exact ⟨i+1,iS,aJ,aE,⟨hi2,bW hiall (by rw[l5 hget];unfold mS DG;rw[hjall,hkall,hq];simp[dr])⟩,by omega⟩
       ·have d0:b.term.kind=0:=by simpa using c0
        refine z7 Z Z c0<|z7 Z Z c0<|z7 Z Z c0<|z7 Z Z c0<|z7 Z Z c0<|z7 Z Z c0<|z7 Z Z c0<|z7 Z Z c0<|z7 Z Z c0<|z7 Z Z c0<|au Z c0 Z<|z6<|ye Z Z<|zg<|aV<|aC Z Z<|aa Z<|z6 ?_
        exact ⟨i+1,iS,aJ,aE,⟨hi2,bW hiall (by rw[l5 hget];unfold mS DG;rw[hjall,hkall,d0];simp[dr])⟩,by omega⟩
   ·have hin:i=f.blocks.length:=by simp at ci;omega
    subst hin
    refine y7<|ah<|ab Z<|z6<|zh<|zk (x:=.bool _) Z ?_
    rw[show g9 f=true by unfold g9;rw[dj,donce,hiall];rfl]
end Go.Proofs.YtdilpodccjlkgaaGreatDoor
namespace Go.Proofs.YtdilpodccjlkgaaGreatDoor
open Go.Proofs.Tryz
open Go.Proofs Go.Lib Go.Shelf Go.RowKit
variable {E:World}
set_option maxRecDepth 20000
theorem fg (f:ad) (v:Int) (hv:aT f v=true):aI prog E 123 [.agg (bD f),.int .i64 v] (.int .i64 (bj f v)):=by
 obtain ⟨x,hx,hv2,hk⟩:=jE hv
 rw[hk]
 refine zo func123 Z (by decide) Z<|ah<|ya (cs:=_) Z Z Z<|ao Z<|z6<|ah<|aq je Z Y5 Z Z<|aH Yg Z<|aa Z<|za (bx v.toNat Z6 Y2 Z Z hv2 hx)<|aq Zf Z Yq Z Z<|ay isAgg59 Z<|ao Z<|z6<|zh<|zk (x:=.int _ _) Z ?_
 rfl
theorem oG (c:Int):aI prog E 124 [.int .u8 c] (.int .i64 (dN c)):=by
 refine zo func124 Z (by decide) Z<|ah<|ao Z<|z6<|zd<|ah<|aa Z<|z6<|zj<|ah<|ak Z Z<|ab Z<|z6<|zu Z (fun c1=>?_) (fun c1=>?_)
 ·refine ah<|ao Z<|z6<|zh<|zk (x:=.int _ _) Z ?_
  unfold dN;simp_all
 ·refine ah<|ak Z Z<|ab Z<|z6<|zu Z (fun c2=>?_) (fun c2=>?_)
  ·refine ah<|ao Z<|z6<|zh<|zk (x:=.int _ _) Z ?_
   unfold dN;simp_all
  ·refine zg<|ah<|ao Z<|z6<|zh<|zk (x:=.int _ _) Z ?_
   unfold dN;simp_all
theorem xu:∀j:Nat,j<27→decide ((bS (j:Int)).1=⟨#[99,111,112,121]⟩)=decide (j=1):=by decide
theorem nf {op:Int} (h:0≤op∧op≤26):((bS op).1=⟨#[99,111,112,121]⟩)↔op=1:=by
 have h1:=xu op.toNat (by omega)
 rw[Int.toNat_of_nonneg h.1] at h1
 constructor
 ·intro e
  have:decide (op.toNat=1)=true:=by rw[←h1];exact qv e
  have:=qz this
  omega
 ·intro e
  have h2:op.toNat=1:=by omega
  have:decide ((bS op).1=⟨#[99,111,112,121]⟩)=true:=by rw[h1];exact qv h2
  exact qz this
theorem tz {op:Int} (h:0≤op∧op≤26):fX[op.toNat]?=some (bS op):=by
 unfold bS
 have hl:op.toNat<fX.length:=by have:fX.length=27:=rfl;omega
 rw[if_pos h.1,qi hl];rfl
def f6 (f:ad) (x:aB):List Int:=if x.op=1 then[bj f x.dst] else bo x.op
theorem xv {f:ad} {x:aB} (h:cW f x):x.args.length=(f6 f x).length:=by
 rw[h.len]
 unfold f6
 split
 ·rename_i e;rw[e];rfl
 ·rfl
theorem oH {f:ad} {x:aB} (h:cW f x):gm f x=(decide (x.args.map (bj f)=f6 f x)&&(!dU x.op||(decide (x.op=1)||decide (bj f x.dst=kK x.op)))):=by
 unfold gm f6
 by_cases e:x.op=1
 ·have hl:=h.len
  rw[e,show (bo 1).length=1 from rfl] at hl
  obtain ⟨a,ha⟩:=List.length_eq_one_iff.1 hl
  rw[if_pos e,if_pos e,ha]
  simp[e]
  exact eq_comm
 ·rw[if_neg e,if_neg e];simp[e]
theorem uZ {op:Int} {m:Nat} (h:m<(bo op).length):∃c:UInt8,(bS op).2.1.data[m]?=some c∧(bo op)[m]=dN (c.toNat:Int):=by
 have h1:m<(bS op).2.1.data.size:=by rw[lX] at h;exact h
 have e:(bo op)[m]?=((bS op).2.1.data.toList[m]?).map fun b=>dN b.toNat:=by unfold bo;rw[qq]
 rw[qi h,Array.getElem?_toList,Array.getElem?_eq_getElem h1] at e
 exact ⟨(bS op).2.1.data[m],by rw[Array.getElem?_eq_getElem h1],by simpa using e⟩
theorem u4 {op:Int} (h:¬(bS op).2.2=⟨#[]⟩):∃c:UInt8,(bS op).2.2.data[0]?=some c∧kK op=dN (c.toNat:Int):=by
 unfold kK
 generalize (bS op).2.2=m at h ⊢
 obtain ⟨⟨l⟩⟩:=m
 cases l with
 |nil=>exact absurd rfl h
 |cons c l=>exact ⟨c,by simp,rfl⟩
end Go.Proofs.YtdilpodccjlkgaaGreatDoor
