/- The document's typed; the laws' typed, single and plain. Of programs that are little. -/
import Derived.Test.YtdilpodccjlkgaaGreatDoorJs
set_option linter.unusedVariables false
set_option linter.unusedSimpArgs false
set_option linter.unusedSectionVars false
namespace Go.Proofs.YtdilpodccjlkgaaGreatDoor
open Go.Proofs.Tryz
open Go.Proofs Go.Lib Go.Shelf Go.RowKit
variable {E:World}
set_option maxRecDepth 20000
theorem Au {f:ac} (hE:bV f) (i:Nat) (p:dF):Em f i p=true↔zK f i p.from_:=by
 unfold Em
 rw[wg,nq,A7 hE]
theorem yC {l:List Int} (hn:l.Nodup) {i:Int} (h:i∈l):(l.filter fun c=>decide (c=i))=[i]:=by
 induction l with
 |nil=>cases h
 |cons c l ih=>
  obtain ⟨h1,h2⟩:=List.nodup_cons.1 hn
  by_cases e:c=i
  ·subst e
   have:(l.filter fun x=>decide (x=c))=[]:=List.filter_eq_nil_iff.2 fun x hx=>by
    simp only[wg];rintro rfl;exact h1 hx
   simp[this]
  ·rw[List.filter_cons_of_neg (by simpa using e)]
   rcases List.mem_cons.1 h with h3|h3
   ·exact absurd h3.symm e
   ·exact ih h2 h3
theorem yD {f:ac} (k:Nat) (i:Int):(be (ah f) (k+1) i).length=(be (ah f) k i).length+if i∈ah f k then 1 else 0:=by
 rw[kT,qz,w1]
 have hn:=jU f k
 congr 1
 by_cases h:i∈ah f k
 ·rw[if_pos h]
  have h1:=yC hn h
  rw[h1];rfl
 ·rw[if_neg h]
  have h1:((ah f k).filter fun c=>decide (c=i))=[]:=List.filter_eq_nil_iff.2 fun c hc=>by
   simp only[wg];rintro rfl;exact h hc
  rw[h1];rfl
set_option maxHeartbeats 4000000 in
theorem ri (f:ac) (hE:bV f) (hf:small f) (hS:bS f):aM prog E 78 [.agg (bD f)] (.bool (di f)):=by
 have hn:=hf.2.2.1
 refine zp func78 Z (by decide) Z<|ai<|y9 (cs:=_) Z Z Z<|ab Z<|z6<|zd<|ai<|au jg Z Z8 Z Z<|aI Zh Z<|ap ju Z<|aa Z<|z6<|zk<|y7 (γ:=Nat) [1,13,14] (fun i=>[(15,.int .i64 i)]) (fun i=>[]) (fun i=>i≤f.blocks.length∧(List.range i).all (Db f)=true) (fun i=>f.blocks.length - i) 0 aK aH (⟨qw _,Z⟩) ?_
 rintro i ⟨hi,hall⟩
 refine ai<|ax Z Z<|z6<|zd<|zt Z (fun ci=>?_) (fun ci=>?_)
 ·have hi2:i<f.blocks.length:=by simp at ci;omega
  obtain ⟨b,hbi⟩:∃b,f.blocks[i]=b:=⟨_,rfl⟩
  have hget:f.blocks[i]?=some b:=by rw[qt hi2,hbi]
  have hmem:b∈f.blocks:=hbi▸qx hi2
  obtain ⟨hb0,hb1,hb2,hb3,hb4⟩:=hf.2.2.2.2 b hmem
  have hPh:=(hS.2.2.2.2.2 b hmem).1
  refine zh<|zd<|zk<|ai<|aa Z<|za (bv i ju jy Z Z Z hget)<|ae Yo jy Z Z<|y6 (cs:=[.str ⟨#[]⟩,.raw (.slice none 0 0),.raw (.slice none 0 0),.int .i64 0,.int .i64 0,.int .i64 0,.int .i64 0]) Zl Z Z<|fun i4=>ak Z<|y1 jy Z Z Z Z Z Z .head Z<|ze (yc (t:=4) Z .head)<|z6<|ai<|au ji Z Yl Z Z<|aI Yv Z<|ap Z4 Z<|aa Z<|z6<|zk<|y7 (γ:=Nat) [1,3,13,14,15,21,22] (fun j=>[(23,.int .i64 j)]) (fun j=>[]) (fun j=>j≤b.phis.length∧(b.phis.take j).all (Em f i)=true) (fun j=>b.phis.length - j) 0 aK aH (⟨qw _,Z⟩) ?_
  rintro j ⟨hj,hjall⟩
  refine ai<|ax Z Z<|z6<|zd<|zt Z (fun cj=>?_) (fun cj=>?_)
  ·have hj2:j<b.phis.length:=by simp at cj;omega
   obtain ⟨p,hp⟩:∃p,b.phis[j]=p:=⟨_,rfl⟩
   have hpm:p∈b.phis:=hp▸qx hj2
   have hpl:=(hb3 p hpm).2
   have hpr:∀c∈p.from_,0≤c∧c<f.blocks.length:=fun c hc=>by have:=List.all_eq_true.1 (hPh p hpm).2.2.2.2 c hc;simpa [eN] using this
   have hbad:¬zK f i p.from_→di f=false:=fun h=>dU hi2 (by rw[lD hget];exact Bool.eq_false_iff.2 (dh hj2 (by rw[hp];exact Bool.eq_false_iff.2 fun h2=>h ((Au hE i p).1 h2))))
   refine zh<|zd<|zk<|ai<|za (bv j Z4 Zb Z Z Z (by rw[qt hj2,hp])) ?_
   refine ae X1 Zb Z Z<|y6 (cs:=[.int .i64 0,.raw (.slice none 0 0),.raw (.slice none 0 0)]) Yf Z Z<|fun i6=>y1 Zb Z Z Z Z Z Z .head Z<|ze (yc (t:=6) Z .head)<|z6<|ai<|ak Z<|z6<|zd<|ai<|au jg Z Z8 Z Z<|aI Zh Z<|ap ju Z<|aa Z<|z6<|zk<|y7 (γ:=Nat) [1,3,6,13,14,15,21,22,23,29] (fun a=>[(30,.int .i64 a),(7,.int .i64 (be (ah f) a i).length)]) (fun a=>[]) (fun a=>a≤f.blocks.length) (fun a=>f.blocks.length - a) 0 eh aH (qw _) ?_
   rintro a ha
   refine ai<|ax Z Z<|z6<|zd<|zt Z (fun ca=>?_) (fun ca=>?_)
   ·have ha2:a<f.blocks.length:=by simp at ca;omega
    have hone:=yD (f:=f) a i
    have hle:=gZ f i a
    refine zh<|zd<|zk<|ai<|aa Z<|ak Z<|z6<|ai<|ae jv jj Z Z<|aa Z<|aa Z<|zg (mq f hn (a:Int) (i:Int) (by omega) (by omega)) Z<|z6<|zy Z (fun cl=>?_) (fun cl=>?_)
    ·have hl:(i:Int)∈ah f a:=by simpa using cl
     rw[if_pos hl] at hone
     refine aT<|aa Z<|aC Z Z<|ak Z<|z6<|aT<|aC Z Z<|aa Z<|z6 ?_
     exact ⟨a+1,ou,⟨rfl,(by rw[hone];rfl),trivial⟩,aH,ha2,by omega⟩
    ·have hl:¬(i:Int)∈ah f a:=by simpa using cl
     rw[if_neg hl] at hone
     refine zh<|aT<|aC Z Z<|aa Z<|z6 ?_
     exact ⟨a+1,ou,⟨rfl,(by rw[hone];rfl),trivial⟩,aH,ha2,by omega⟩
   ·have han:a=f.blocks.length:=by simp at ca;omega
    subst han
    refine y5<|zd<|ai<|aa Z<|au Z0 Z j7 Z Z<|aI je Z<|ap wy Z<|aO Z Z<|z6<|zy Z (fun cn=>?_) (fun cn=>?_)
    ·have hne:¬(be (ah f) f.blocks.length i).length=p.from_.length:=by have h0:¬((be (ah f) f.blocks.length i).length:Int)=(p.from_.length:Int):=(by simpa using cn);omega
     refine ai<|ab Z<|z6<|zi<|zn (x:=.bool _) Z ?_
     rw[hbad fun h=>hne h.1]
    ·have hne:(be (ah f) f.blocks.length i).length=p.from_.length:=by have h0:((be (ah f) f.blocks.length i).length:Int)=(p.from_.length:Int):=(by simpa using cn);omega
     refine zh<|ai<|au Z0 Z j7 Z Z<|aI je Z<|ap wy Z<|aa Z<|z6<|zk<|y7 (γ:=Nat) [1,3,6,13,14,15,21,22,23,46,47] (fun k=>[(48,.int .i64 k)]) (fun k=>[]) (fun k=>k≤p.from_.length∧∀q (h:q<p.from_.length),q<k→(i:Int)∈ah f p.from_[q]∧p.from_[q] ∉ p.from_.take q) (fun k=>p.from_.length - k) 0 aK aH (⟨qw _,fun q h h2=>by omega⟩) ?_
     rintro k ⟨hk,hok⟩
     refine ai<|ax Z Z<|z6<|zd<|zt Z (fun ck=>?_) (fun ck=>?_)
     ·have hk2:k<p.from_.length:=by simp at ck;omega
      obtain ⟨c,hc⟩:∃c,p.from_[k]=c:=⟨_,rfl⟩
      obtain ⟨hc0,hcn⟩:=hpr c (hc▸qx hk2)
      refine zh<|zd<|zk<|ai<|aa Z<|za (bv k wy wz Z Z Z (by rw[qt hk2,hc])) ?_
      refine aA j6 Z<|ak Z<|ak Z<|z6<|zd<|ai<|ae jv jj Z Z<|aa Z<|aa Z<|zg (mq f hn c (i:Int) hc0 hcn) Z<|aD Z<|z6<|zy Z (fun cl=>?_) (fun cl=>?_)
      ·have hl:¬(i:Int)∈ah f c:=by simpa using cl
       refine ai<|ab Z<|z6<|zi<|zn (x:=.bool _) Z ?_
       rw[hbad fun h=>hl (hc▸(h.2 k hk2).1)]
      ·have hl:(i:Int)∈ah f c:=by simpa using cl
       refine zh<|ai<|aa Z<|aa Z<|z6<|zk<|y7 (γ:=Nat) [1,3,6,10,13,14,15,21,22,23,46,47,48,58] (fun q=>[(59,.int .i64 q)]) (fun q=>[]) (fun q=>q≤k∧c ∉ p.from_.take q) (fun q=>k - q) 0 aK aH (⟨qw _,by simp⟩) ?_
       rintro q ⟨hq,hqn⟩
       refine ai<|ax Z Z<|z6<|zd<|zt Z (fun cq=>?_) (fun cq=>?_)
       ·have hq2:q<k:=by omega
        have hq3:q<p.from_.length:=by omega
        refine zh<|zd<|zk<|ai<|aa Z<|ak Z<|z6<|ai<|au Z0 Z j7 Z Z<|aI je Z<|aa Z<|za (bv q wy wz Z Z Z (qt hq3))<|aA j6 Z<|aa Z<|ao Z Z<|z6<|zy Z (fun ce=>?_) (fun ce=>?_)
        ·have he:p.from_[q]=c:=by simpa using ce
         have hin:c∈p.from_.take k:=by rw[←he];exact List.mem_take_iff_getElem.2 ⟨q,by omega,rfl⟩
         refine ai<|ab Z<|z6<|zi<|zn (x:=.bool _) Z ?_
         rw[hbad fun h=>(h.2 k hk2).2 (by rw[hc];exact hin)]
        ·have he:¬p.from_[q]=c:=by simpa using ce
         refine zh<|aT<|aC Z Z<|aa Z<|z6 ?_
         exact ⟨q+1,⟨rfl,rfl,rfl,rfl,rfl,rfl,rfl,rfl,rfl,rfl,rfl,rfl,rfl,rfl,trivial⟩,aK,aH,⟨hq2,fun hm=>by rw[qu hq3] at hm;rcases List.mem_append.1 hm with h1|h1;exact hqn h1;simp at h1;exact he h1.symm⟩,by omega⟩
       ·have hqn2:q=k:=by omega
        subst hqn2
        refine y5<|aT<|aC Z Z<|aa Z<|z6 ?_
        exact ⟨q+1,pe,aK,aH,⟨hk2,fun r hr h2=>by rcases Nat.lt_succ_iff_lt_or_eq.1 h2 with h3|h3;exact hok r hr h3;subst h3;rw[hc];exact ⟨hl,hqn⟩⟩,by omega⟩
     ·have hkn:k=p.from_.length:=by simp at ck;omega
      subst hkn
      refine y5<|aT<|aC Z Z<|aa Z<|z6 ?_
      exact ⟨j+1,lu,aK,aH,⟨hj2,bI hj2 hjall (by rw[hp];exact (Au hE i p).2 ⟨hne,fun q hq=>hok q hq hq⟩)⟩,by omega⟩
  ·have hjn:j=b.phis.length:=by simp at cj;omega
   subst hjn
   rw[qy] at hjall
   refine y5<|aT<|aC Z Z<|aa Z<|z6 ?_
   exact ⟨i+1,de,aK,aH,⟨hi2,cK hall (by rw[lD hget];exact hjall)⟩,by omega⟩
 ·have hin:i=f.blocks.length:=by simp at ci;omega
  subst hin
  refine y5<|ai<|ab Z<|z6<|zi<|zn (x:=.bool _) Z ?_
  rw[show di f=true from hall]
end Go.Proofs.YtdilpodccjlkgaaGreatDoor
namespace Go.Proofs.YtdilpodccjlkgaaGreatDoor
open Go.Proofs.Tryz
open Go.Proofs Go.Lib Go.Shelf Go.RowKit
variable {E:World}
set_option maxRecDepth 20000
theorem D1 {f:ac} {v:Int} (h:bd f v=true):∃k:Nat,v=(k:Int)∧k<f.vars.length:=by
 have h1:0≤v∧v<f.vars.length:=by simpa [bd] using h
 exact ⟨v.toNat,by omega,by omega⟩
theorem ij (f:ac) (hE:bV f) (hf:small f) {v:Int} (hv:bd f v=true) (b a:Int) (h0:0≤b) (hb:b<f.blocks.length):aM prog E 80 [.agg (bD f),.int .i64 v,.int .i64 b,.int .i64 a] (.bool (eJ f (aL f v) b a)):=by
 obtain ⟨k,rfl,hk⟩:=D1 hv
 exact rT f hE hf k b a h0 hb
theorem oV {f:ac} {i:Nat} {b:aX} (hi:i<f.blocks.length) (hg:f.blocks[i]?=some b) (h:oF f i b=false):iY f=false:=by
 unfold iY;rw[dU hi (by rw[nA hg];exact h)];simp
set_option maxHeartbeats 8000000 in
theorem rj (f:ac) (hE:bV f) (hf:small f) (hS:bS f):aM prog E 40 [.agg (bD f)] (.bool (iY f)):=by
 have hn:=hf.2.2.1
 have hv:=hf.1
 have hG:=hE.grph
 refine zp func40 Z (by decide) Z<|ai<|y9 (cs:=_) Z Z Z<|ab Z<|z6<|zd<|ai<|ae jv jj Z Z<|zg (ri f hE hf hS) Z<|aD Z<|z6<|zy Z (fun cj=>?_) (fun cj=>?_)
 ·have dj:di f=false:=by simpa using cj
  refine ai<|ab Z<|z6<|zi<|zn (x:=.bool _) Z ?_
  rw[show iY f=false by unfold iY;rw[dj];rfl]
 ·have dj:di f=true:=by simpa using cj
  refine zh<|ai<|ae jv jj Z Z<|zg (m3 f hE hn (-1)) Z<|za (ni Z)<|z6<|zd<|ai<|au jg Z Yc Z Z<|aI Yn Z<|ap Z9 Z<|aa Z<|z6<|zk<|y7 (γ:=Nat) [1,3,23] (fun v=>[(24,.int .i64 v)]) (fun v=>[]) (fun v=>v≤f.vars.length∧(List.range v).all (iX f)=true) (fun v=>f.vars.length - v) 0 aK aH (⟨qw _,Z⟩) ?_
  rintro v ⟨hvl,hall⟩
  refine ai<|ax Z Z<|z6<|zd<|zt Z (fun cv=>?_) (fun cv=>?_)
  ·have hv2:v<f.vars.length:=by simp at cv;omega
   have hbad:iX f v=false→iY f=false:=fun h=>by unfold iY;rw[show lS f=false from dU hv2 h];simp
   refine zh<|zd<|zk<|ai<|aa Z<|ak Z<|z6<|ai<|ae jv jj Z Z<|aa Z<|zg (oH f hf v) Z<|ak Z<|z6<|ai<|aa Z<|aY Z Z<|aj Z<|zq (s:=32) Z (fun c1=>?_) (fun c1=>?_)
   ·have d1:1<(bu f v).length:=by have h0:(1:Int)<((bu f v).length:Int):=(by simpa using c1);omega
    refine z7 Z Z c1<|z7 Z Z c1<|z7 Z Z c1<|zm Z Z<|zm Z Z<|zm Z Z<|zm Z Z<|zm Z Z<|z7 Z Z c1<|aw Z c1 Z<|z6<|yu Z Z<|ai<|ab Z<|z6<|zi<|zn (x:=.bool _) Z ?_
    rw[hbad (by unfold iX;simp[d1])]
   ·have d1:¬1<(bu f v).length:=by have h0:¬(1:Int)<((bu f v).length:Int):=(by simpa using c1);omega
    refine z8 Z Z c1<|aa Z<|z8 Z Z c1<|aY Z Z<|z8 Z Z c1<|aj Z<|zq (s:=35) Z (fun c2=>?_) (fun c2=>?_)
    ·have d2:0<(bu f v).length:=by have h0:(0:Int)<((bu f v).length:Int):=(by simpa using c2);omega
     refine z8 Z Z c2<|aa Z<|z8 Z Z c2<|au jg Z j7 Z Z<|z8 Z Z c2<|aI je Z<|z8 Z Z c2<|ap wy Z<|z8 Z Z c2<|ax Z Z<|z8 Z Z c1<|aw Z c2 Z<|ay Z c1 Z<|z6<|zy Z (fun c3=>?_) (fun c3=>?_)
     ·have d3:v<f.params.length:=by simpa using c3
      refine ai<|ab Z<|z6<|zi<|zn (x:=.bool _) Z ?_
      rw[hbad (by unfold iX;rw[w8 d2,w8 d3];simp)]
     ·have d3:¬v<f.params.length:=by simpa using c3
      refine zh<|aT<|aC Z Z<|aa Z<|z6 ?_
      exact ⟨v+1,de,aK,aH,⟨hv2,cK hall (by unfold iX;rw[w9 d1,w9 d3];simp)⟩,by omega⟩
    ·have d2:¬0<(bu f v).length:=by have h0:¬(0:Int)<((bu f v).length:Int):=(by simpa using c2);omega
     refine z7 Z Z c2<|z7 Z Z c2<|z7 Z Z c2<|z7 Z Z c2<|z7 Z Z c2<|z8 Z Z c1<|ay Z c2 Z<|ay Z c1 Z<|z6<|yg Z Z<|zh<|aT<|aC Z Z<|aa Z<|z6 ?_
     exact ⟨v+1,de,aK,aH,⟨hv2,cK hall (by unfold iX;rw[w9 d1,w9 d2];rfl)⟩,by omega⟩
  ·have hvn:v=f.vars.length:=by simp at cv;omega
   subst hvn
   have donce:lS f=true:=hall
   refine y5<|zd<|ai<|au jg Z Z8 Z Z<|aI Zh Z<|ap ju Z<|aa Z<|z6<|zk<|y7 (γ:=Nat) [1,3,45,46] (fun i=>[(47,.int .i64 i)]) (fun i=>[]) (fun i=>i≤f.blocks.length∧(List.range i).all (Hu f)=true) (fun i=>f.blocks.length - i) 0 aK aH (⟨qw _,Z⟩) ?_
   rintro i ⟨hi,hiall⟩
   refine ai<|ax Z Z<|z6<|zd<|zt Z (fun ci=>?_) (fun ci=>?_)
   ·have hi2:i<f.blocks.length:=by simp at ci;omega
    obtain ⟨b,hbi⟩:∃b,f.blocks[i]=b:=⟨_,rfl⟩
    have hget:f.blocks[i]?=some b:=by rw[qt hi2,hbi]
    have hmem:b∈f.blocks:=hbi▸qx hi2
    obtain ⟨hb0,hb1,hb2,hb3,hb4⟩:=hf.2.2.2.2 b hmem
    obtain ⟨hPh,hIn,hTm⟩:=hS.2.2.2.2.2 b hmem
    have hth:=mi (E:=ah f) (shut:=-1) hi2
    refine zh<|zd<|zk<|ai<|aa Z<|za (bv i ju jy Z Z Z hget)<|ae Yo jy Z Z<|y6 (cs:=[.str ⟨#[]⟩,.raw (.slice none 0 0),.raw (.slice none 0 0),.int .i64 0,.int .i64 0,.int .i64 0,.int .i64 0]) Zl Z Z<|fun i7=>ak Z<|y1 jy Z Z Z Z Z Z .head Z<|ze (yc (t:=7) Z .head)<|z6<|zd<|ai<|bc Z<|aa Z<|za (bv i jk Z6 Z Z Z hth)<|za (yv (c:=.bool _) Ym Z)<|aD Z<|z6<|zy Z (fun cr=>?_) (fun cr=>?_)
    ·have dr:¬oA (ah f) (i:Int):=fun h=>by simp at cr;exact cr ((zH hG).2 h)
     refine ai<|ab Z<|z6<|zi<|zn (x:=.bool _) Z ?_
     rw[oV hi2 hget (by unfold oF;simp[dr])]
    ·have dr:oA (ah f) (i:Int):=by simp at cr;exact (zH hG).1 cr
     refine zh<|zd<|ai<|au ji Z Yl Z Z<|aI Yv Z<|ap Z4 Z<|aa Z<|z6<|zk<|y7 (γ:=Nat) [1,3,6,7,45,46,47,58,59] (fun j=>[(60,.int .i64 j)]) (fun j=>[]) (fun j=>j≤b.phis.length∧(b.phis.take j).all (Hr f)=true) (fun j=>b.phis.length - j) 0 aK aH (⟨qw _,Z⟩) ?_
     rintro j ⟨hj,hjall⟩
     refine ai<|ax Z Z<|z6<|zd<|zt Z (fun cjj=>?_) (fun cjj=>?_)
     ·have hj2:j<b.phis.length:=by simp at cjj;omega
      obtain ⟨p,hp⟩:∃p,b.phis[j]=p:=⟨_,rfl⟩
      have hpm:p∈b.phis:=hp▸qx hj2
      obtain ⟨hpd,hpl,hpn,hpa,hpf⟩:=hPh p hpm
      have hpb:=hb3 p hpm
      refine zh<|zd<|zk<|ai<|za (bv j Z4 Zb Z Z Z (by rw[qt hj2,hp])) ?_
      refine ae X1 Zb Z Z<|y6 (cs:=[.int .i64 0,.raw (.slice none 0 0),.raw (.slice none 0 0)]) Yf Z Z<|fun i9=>y1 Zb Z Z Z Z Z Z .head Z<|ze (yc (t:=9) Z .head)<|z6<|ai<|au Z0 Z j7 Z Z<|aI je Z<|ap wy Z<|aa Z<|z6<|zk<|y7 (γ:=Nat) [1,3,6,7,9,45,46,47,58,59,60,65,66] (fun k=>[(67,.int .i64 k)]) (fun k=>[]) (fun k=>k≤p.args.length∧((p.args.zip p.from_).take k).all (fun q=>eJ f (aL f q.1) q.2 (fE f q.2))=true) (fun k=>p.args.length - k) 0 aK aH (⟨qw _,Z⟩) ?_
      rintro k ⟨hk,hkall⟩
      refine ai<|ax Z Z<|z6<|zd<|zt Z (fun ck=>?_) (fun ck=>?_)
      ·have hk2:k<p.args.length:=by simp at ck;omega
       have hk3:k<p.from_.length:=by omega
       obtain ⟨v,hv⟩:∃v,p.args[k]=v:=⟨_,rfl⟩
       obtain ⟨c,hc⟩:∃c,p.from_[k]=c:=⟨_,rfl⟩
       have hvv:=List.all_eq_true.1 hpa v (hv▸qx hk2)
       have hcr:0≤c∧c<f.blocks.length:=by have:=List.all_eq_true.1 hpf c (hc▸qx hk3);simpa [eN] using this
       obtain ⟨d,hd⟩:∃d,f.blocks[c.toNat]'(by omega)=d:=⟨_,rfl⟩
       have hdg:f.blocks[c.toNat]?=some d:=by rw[qt (by omega),hd]
       have hla:fE f c=d.insts.length:=by unfold fE;rw[hdg];rfl
       have hz:k<(p.args.zip p.from_).length:=by rw[List.length_zip];omega
       have hzk:(p.args.zip p.from_)[k]=(v,c):=by rw[List.getElem_zip,hv,hc]
       refine zh<|zd<|zk<|ai<|aa Z<|za (bv k wy wz Z Z Z (by rw[qt hk2,hv])) ?_
       refine aA j6 Z<|ak Z<|ak Z<|z6<|zd<|zr (fun j=>false) (by kernel_rfl) Z (zj (.rest _))<|ad 0 Z (yx jv jj Z Z)<|ad 1 Z (cD Z)<|ad 2 Z (bM Z0 Z j7 Z Z)<|ad 3 Z (fa je Z)<|ad 4 Z (cD Z)<|ad 5 Z (bv k wy wz Z Z Z (by rw[qt hk3,hc])) ?_
       refine ad 6 Z (cR j6 Z)<|ad 7 Z (bM jg Z Z8 Z Z)<|ad 8 Z (fa Zh Z)<|ad 9 Z (bM Z0 Z j7 Z Z)<|ad 10 Z (fa je Z)<|ad 11 Z (cD Z)<|ad 12 Z (bv k wy wz Z Z Z (by rw[qt hk3,hc])) ?_
       refine ad 13 Z (cR j6 Z)<|ad 14 Z (bv c.toNat ju jy Z Z (by omega) hdg)<|ad 15 Z (bM ji Z Zq Z Z)<|ad 16 Z (fa Y4 Z)<|ad 17 Z (Gv.lenM jz Z)<|aQ 18 Z<|zg (ij f hE hf hvv c d.insts.length hcr.1 hcr.2) Z<|z6<|ad 19 Z (Gv.not Z)<|bJ<|zy Z (fun cq=>?_) (fun cq=>?_)
       ·have hq:eJ f (aL f v) c (fE f c)=false:=by rw[hla];simpa using cq
        refine ai<|ab Z<|z6<|zi<|zn (x:=.bool _) Z ?_
        rw[oV hi2 hget (by unfold oF;rw[show b.phis.all (Hr f)=false from Bool.eq_false_iff.2 (dh hj2 (by rw[hp];unfold Hr;exact Bool.eq_false_iff.2 (dh hz (by rw[hzk];exact hq))))];simp)]
       ·have hq:eJ f (aL f v) c (fE f c)=true:=by rw[hla];simpa using cq
        refine zh<|aT<|aC Z Z<|aa Z<|z6 ?_
        exact ⟨k+1,⟨rfl,rfl,rfl,rfl,rfl,rfl,rfl,rfl,rfl,rfl,rfl,rfl,rfl,trivial⟩,aK,aH,⟨hk2,bI hz hkall (by rw[hzk];exact hq)⟩,by omega⟩
      ·have hkn:k=p.args.length:=by simp at ck;omega
       have hzl:(p.args.zip p.from_).length=p.args.length:=by rw[List.length_zip];omega
       rw[hkn,←hzl,qy] at hkall
       refine y5<|aT<|aC Z Z<|aa Z<|z6 ?_
       exact ⟨j+1,tg,aK,aH,⟨hj2,bI hj2 hjall (by rw[hp];exact hkall)⟩,by omega⟩
     ·have hjn:j=b.phis.length:=by simp at cjj;omega
      subst hjn
      rw[qy] at hjall
      refine y5<|zd<|ai<|au ji Z Zq Z Z<|aI Y4 Z<|ap jz Z<|aa Z<|z6<|zk<|y7 (γ:=Nat) [1,3,6,7,45,46,47,95,96] (fun k=>[(97,.int .i64 k)]) (fun k=>[]) (fun k=>k≤b.insts.length∧((b.insts.zipIdx).take k).all (Hs f i)=true) (fun k=>b.insts.length - k) 0 aK aH (⟨qw _,Z⟩) ?_
      rintro k ⟨hk,hkall⟩
      refine ai<|ax Z Z<|z6<|zd<|zt Z (fun ck=>?_) (fun ck=>?_)
      ·have hk2:k<b.insts.length:=by simp at ck;omega
       obtain ⟨z,hzk⟩:∃z,b.insts[k]=z:=⟨_,rfl⟩
       have hzm:z∈b.insts:=hzk▸qx hk2
       have hI:=gN (hIn z hzm)
       have hzl:=hb4 z hzm
       have hzi:k<b.insts.zipIdx.length:=by simp;exact hk2
       have hze:b.insts.zipIdx[k]=(z,k):=by simp[hzk]
       refine zh<|zd<|zk<|ai<|aa Z<|za (bv k jz jx Z Z Z (by rw[qt hk2,hzk])) ?_
       refine ae Y0 jx Z Z<|y6 (cs:=[.int .i64 0,.int .i64 0,.raw (.slice none 0 0),.int .i64 0]) Zf Z Z<|fun i13=>ak Z<|y1 jx Z Z Z Z Z Z .head Z<|ze (yc (t:=13) Z .head)<|z6<|ai<|au j5 Z j7 Z Z<|aI je Z<|ap wy Z<|aa Z<|z6<|zk<|y7 (γ:=Nat) [1,3,6,7,12,45,46,47,95,96,97,103,104] (fun m=>[(105,.int .i64 m)]) (fun m=>[]) (fun m=>m≤z.args.length∧(z.args.take m).all (fun v=>eJ f (aL f v) i k)=true) (fun m=>z.args.length - m) 0 aK aH (⟨qw _,Z⟩) ?_
       rintro m ⟨hm,hmall⟩
       refine ai<|ax Z Z<|z6<|zd<|zt Z (fun cm=>?_) (fun cm=>?_)
       ·have hm2:m<z.args.length:=by simp at cm;omega
        obtain ⟨v,hv⟩:∃v,z.args[m]=v:=⟨_,rfl⟩
        have hvv:=hI.args v (hv▸qx hm2)
        refine zh<|zd<|zk<|ai<|za (bv m wy wz Z Z Z (by rw[qt hm2,hv])) ?_
        refine aA j6 Z<|ak Z<|z6<|ai<|ae jv jj Z Z<|aa Z<|aa Z<|aa Z<|zg (ij f hE hf hvv (i:Int) (k:Int) (by omega) (by omega)) Z<|aD Z<|z6<|zy Z (fun cq=>?_) (fun cq=>?_)
        ·have hq:eJ f (aL f v) i k=false:=by simpa using cq
         refine ai<|ab Z<|z6<|zi<|zn (x:=.bool _) Z ?_
         rw[oV hi2 hget (by unfold oF;rw[show b.insts.zipIdx.all (Hs f i)=false from Bool.eq_false_iff.2 (dh hzi (by rw[hze];unfold Hs;exact Bool.eq_false_iff.2 (dh hm2 (by rw[hv];exact hq))))];simp)]
        ·have hq:eJ f (aL f v) i k=true:=by simpa using cq
         refine zh<|aT<|aC Z Z<|aa Z<|z6 ?_
         exact ⟨m+1,⟨rfl,rfl,rfl,rfl,rfl,rfl,rfl,rfl,rfl,rfl,rfl,rfl,rfl,trivial⟩,aK,aH,⟨hm2,bI hm2 hmall (by rw[hv];exact hq)⟩,by omega⟩
       ·have hmn:m=z.args.length:=by simp at cm;omega
        rw[hmn,qy] at hmall
        refine y5<|aT<|aC Z Z<|aa Z<|z6 ?_
        exact ⟨k+1,tg,aK,aH,⟨hk2,bI hzi hkall (by rw[hze];exact hmall)⟩,by omega⟩
      ·have hkn:k=b.insts.length:=by simp at ck;omega
       rw[hkn,show b.insts.length=b.insts.zipIdx.length by simp,qy] at hkall
       refine y5<|ai<|au ji Z Zo Z Z<|au jf Z Y7 Z Z<|aA Yh Z<|aO Z Z<|aj Z<|zq (s:=121) Z (fun c0=>?_) (fun c0=>?_)
       ·have d0:¬b.term.kind=0:=by simpa using c0
        refine z8 Z Z c0<|ae jv jj Z Z<|z8 Z Z c0<|au ji Z Zo Z Z<|z8 Z Z c0<|au jf Z wz Z Z<|z8 Z Z c0<|aA j6 Z<|z8 Z Z c0<|aa Z<|z8 Z Z c0<|au ji Z Zq Z Z<|z8 Z Z c0<|aI Y4 Z<|z8 Z Z c0<|ap jz Z<|z8 Z Z c0<|zg (ij f hE hf (ia hTm d0) (i:Int) (b.insts.length:Int) (by omega) (by omega)) Z<|z8 Z Z c0<|aD Z<|aw Z c0 Z<|z6<|zy Z (fun cq=>?_) (fun cq=>?_)
        ·have hq:eJ f (aL f b.term.var) i b.insts.length=false:=by simpa using cq
         refine ai<|ab Z<|z6<|zi<|zn (x:=.bool _) Z ?_
         rw[oV hi2 hget (by unfold oF Ht;rw[hq,w9 d0];simp)]
        ·have hq:eJ f (aL f b.term.var) i b.insts.length=true:=by simpa using cq
         refine zh<|aT<|aC Z Z<|aa Z<|z6 ?_
         exact ⟨i+1,gn,aK,aH,⟨hi2,cK hiall (by rw[nA hget];unfold oF Ht;rw[hjall,hkall,hq];simp[dr])⟩,by omega⟩
       ·have d0:b.term.kind=0:=by simpa using c0
        refine z7 Z Z c0<|z7 Z Z c0<|z7 Z Z c0<|z7 Z Z c0<|z7 Z Z c0<|z7 Z Z c0<|z7 Z Z c0<|z7 Z Z c0<|z7 Z Z c0<|z7 Z Z c0<|ay Z c0 Z<|z6<|yg Z Z<|zh<|aT<|aC Z Z<|aa Z<|z6 ?_
        exact ⟨i+1,gn,aK,aH,⟨hi2,cK hiall (by rw[nA hget];unfold oF Ht;rw[hjall,hkall,d0];simp[dr])⟩,by omega⟩
   ·have hin:i=f.blocks.length:=by simp at ci;omega
    subst hin
    refine y5<|ai<|ab Z<|z6<|zi<|zn (x:=.bool _) Z ?_
    rw[show iY f=true by unfold iY;rw[dj,donce,hiall];rfl]
end Go.Proofs.YtdilpodccjlkgaaGreatDoor
namespace Go.Proofs.YtdilpodccjlkgaaGreatDoor
open Go.Proofs.Tryz
open Go.Proofs Go.Lib Go.Shelf Go.RowKit
variable {E:World}
set_option maxRecDepth 20000
theorem fP (f:ac) (v:Int) (hv:bd f v=true):aM prog E 123 [.agg (bD f),.int .i64 v] (.int .i64 (bf f v)):=by
 obtain ⟨x,hx,hv2,hk⟩:=kR hv
 rw[hk]
 refine zp func123 Z (by decide) Z<|ai<|y9 (cs:=_) Z Z Z<|ak Z<|z6<|ai<|au jg Z Yc Z Z<|aI Yn Z<|aa Z<|za (bv v.toNat Z9 Yd Z Z hv2 hx)<|au Zm Z X2 Z Z<|aA Xg Z<|ak Z<|z6<|zi<|zn (x:=.int _ _) Z ?_
 rfl
theorem rl (c:Int):aM prog E 124 [.int .u8 c] (.int .i64 (em c)):=by
 refine zp func124 Z (by decide) Z<|ai<|ak Z<|z6<|zd<|ai<|aa Z<|z6<|zk<|ai<|ao Z Z<|ab Z<|z6<|zy Z (fun c1=>?_) (fun c1=>?_)
 ·refine ai<|ak Z<|z6<|zi<|zn (x:=.int _ _) Z ?_
  unfold em;simp_all
 ·refine ai<|ao Z Z<|ab Z<|z6<|zy Z (fun c2=>?_) (fun c2=>?_)
  ·refine ai<|ak Z<|z6<|zi<|zn (x:=.int _ _) Z ?_
   unfold em;simp_all
  ·refine zh<|ai<|ak Z<|z6<|zi<|zn (x:=.int _ _) Z ?_
   unfold em;simp_all
theorem B3:∀j:Nat,j<27→decide ((bW (j:Int)).1=⟨#[99,111,112,121]⟩)=decide (j=1):=by decide
theorem oW {op:Int} (h:0≤op∧op≤26):((bW op).1=⟨#[99,111,112,121]⟩)↔op=1:=by
 have h1:=B3 op.toNat (by omega)
 rw[wc h.1] at h1
 constructor
 ·intro e
  have:decide (op.toNat=1)=true:=by rw[←h1];exact w8 e
  have:=wd this
  omega
 ·intro e
  have h2:op.toNat=1:=by omega
  have:decide ((bW op).1=⟨#[99,111,112,121]⟩)=true:=by rw[h1];exact w8 h2
  exact wd this
theorem rm {op:Int} (h:0≤op∧op≤26):gI[op.toNat]?=some (bW op):=by
 unfold bW
 have hl:op.toNat<gI.length:=by have:gI.length=27:=rfl;omega
 rw[if_pos h.1,qt hl];rfl
def gM (f:ac) (x:aF):List Int:=if x.op=1 then[bf f x.dst] else bb x.op
theorem B4 {f:ac} {x:aF} (h:bL f x):x.args.length=(gM f x).length:=by
 rw[h.len]
 unfold gM
 split
 ·rename_i e;rw[e];rfl
 ·rfl
theorem rn {f:ac} {x:aF} (h:bL f x):dL f x=(decide (x.args.map (bf f)=gM f x)&&(!cS x.op||(decide (x.op=1)||decide (bf f x.dst=ff x.op)))):=by
 unfold dL gM
 by_cases e:x.op=1
 ·have hl:=h.len
  rw[e,show (bb 1).length=1 from rfl] at hl
  obtain ⟨a,ha⟩:=List.length_eq_one_iff.1 hl
  rw[if_pos e,if_pos e,ha]
  simp[e]
  exact eq_comm
 ·rw[if_neg e,if_neg e];simp[e]
theorem yE {op:Int} {m:Nat} (h:m<(bb op).length):∃c:UInt8,(bW op).2.1.data[m]?=some c∧(bb op)[m]=em (c.toNat:Int):=by
 have h1:m<(bW op).2.1.data.size:=by rw[nv] at h;exact h
 have e:(bb op)[m]?=((bW op).2.1.data.toList[m]?).map fun b=>em b.toNat:=by unfold bb;rw[w2]
 rw[qt h,Array.getElem?_toList,Array.getElem?_eq_getElem h1] at e
 exact ⟨(bW op).2.1.data[m],by rw[Array.getElem?_eq_getElem h1],by simpa using e⟩
theorem yF {op:Int} (h:¬(bW op).2.2=⟨#[]⟩):∃c:UInt8,(bW op).2.2.data[0]?=some c∧ff op=em (c.toNat:Int):=by
 unfold ff
 generalize (bW op).2.2=m at h ⊢
 obtain ⟨⟨l⟩⟩:=m
 cases l with
 |nil=>exact absurd rfl h
 |cons c l=>exact ⟨c,by simp,rfl⟩
end Go.Proofs.YtdilpodccjlkgaaGreatDoor
