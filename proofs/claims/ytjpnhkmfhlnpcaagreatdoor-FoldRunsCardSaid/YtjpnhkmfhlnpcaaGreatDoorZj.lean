/- The document's typed; the laws' typed, single and plain. Of programs that are little. -/
import Derived.Test.YtjpnhkmfhlnpcaaGreatDoorZi
set_option linter.unusedVariables false
set_option linter.unusedSimpArgs false
set_option linter.unusedSectionVars false
namespace Go.Proofs.YtjpnhkmfhlnpcaaGreatDoor
section
open Go.Proofs.Tryz
open Go.Proofs Go.Lib Go.Shelf Go.RowKit
variable {E:World}
set_option maxRecDepth 20000
theorem xH {f:ab} (hE:br f) (i:Nat) (p:bu):FW f i p=true↔xd f i p.from_:=by
 unfold FW
 rw[wa,mw,B9 hE]
theorem vW {l:List Int} (hn:l.Nodup) {i:Int} (h:i∈l):(l.filter fun c=>decide (c=i))=[i]:=by
 induction l with
 |nil=>cases h
 |cons c l ih=>
  obtain ⟨h1,h2⟩:=List.nodup_cons.1 hn
  by_cases e:c=i
  ·subst e
   have:(l.filter fun x=>decide (x=c))=[]:=List.filter_eq_nil_iff.2 fun x hx=>by
    simp only[wa];rintro rfl;exact h1 hx
   simp[this]
  ·rw[List.filter_cons_of_neg (by simpa using e)]
   rcases List.mem_cons.1 h with h3|h3
   ·exact absurd h3.symm e
   ·exact ih h2 h3
theorem vX {f:ab} (k:Nat) (i:Int):(bE (au f) (k+1) i).length=(bE (au f) k i).length+if i∈au f k then 1 else 0:=by
 rw[jV,qw,qx]
 have hn:=cT f k
 congr 1
 by_cases h:i∈au f k
 ·rw[if_pos h]
  have h1:=vW hn h
  rw[h1];rfl
 ·rw[if_neg h]
  have h1:((au f k).filter fun c=>decide (c=i))=[]:=List.filter_eq_nil_iff.2 fun c hc=>by
   simp only[wa];rintro rfl;exact h hc
  rw[h1];rfl
set_option maxHeartbeats 4000000 in
theorem j8 (f:ab) (hE:br f) (hf:small f) (hS:bA f):aZ prog E 24 [.agg (bQ f)] (.bool (cO f)):=by
 have hn:=hf.2.2.1
 refine zo func24 Z (by decide) Z<|ah<|yb (cs:=_) Z Z Z<|ad Z<|z7<|zb<|ah<|aq ji Z Z0 Z Z<|aM Z6 Z<|ae jl Z<|aa Z<|z7<|zg<|y7 (γ:=Nat) [1,13,14] (fun i=>[(15,.int .i64 i)]) (fun i=>[]) (fun i=>i≤f.blocks.length∧(List.range i).all (DM f)=true) (fun i=>f.blocks.length - i) 0 aW aN (⟨qt _,Z⟩) ?_
 rintro i ⟨hi,hall⟩
 refine ah<|ay Z Z<|z7<|zb<|zm Z (fun ci=>?_) (fun ci=>?_)
 ·have hi2:i<f.blocks.length:=by simp at ci;omega
  obtain ⟨b,hbi⟩:∃b,f.blocks[i]=b:=⟨_,rfl⟩
  have hget:f.blocks[i]?=some b:=by rw[qq hi2,hbi]
  have hmem:b∈f.blocks:=hbi▸qu hi2
  obtain ⟨hb0,hb1,hb2,hb3,hb4⟩:=hf.2.2.2.2 b hmem
  have hPh:=(hS.2.2.2.2.2 b hmem).1
  refine ze<|zb<|zg<|ah<|aa Z<|za (cH i jl jv Z Z Z hget)<|ac Zu jv Z Z<|zy (cs:=[.str ⟨#[]⟩,.raw (.slice none 0 0),.raw (.slice none 0 0),.int .i64 0,.int .i64 0,.int .i64 0,.int .i64 0]) Zc Z Z<|fun i4=>aw Z<|zt jv Z Z Z Z Z Z .head Z<|zx (yo (t:=4) Z .head)<|z7<|ah<|aq jh Z Zf Z Z<|aM Zv Z<|ae jx Z<|aa Z<|z7<|zg<|y7 (γ:=Nat) [1,3,13,14,15,21,22] (fun j=>[(23,.int .i64 j)]) (fun j=>[]) (fun j=>j≤b.phis.length∧(b.phis.take j).all (FW f i)=true) (fun j=>b.phis.length - j) 0 aW aN (⟨qt _,Z⟩) ?_
  rintro j ⟨hj,hjall⟩
  refine ah<|ay Z Z<|z7<|zb<|zm Z (fun cj=>?_) (fun cj=>?_)
  ·have hj2:j<b.phis.length:=by simp at cj;omega
   obtain ⟨p,hp⟩:∃p,b.phis[j]=p:=⟨_,rfl⟩
   have hpm:p∈b.phis:=hp▸qu hj2
   have hpl:=(hb3 p hpm).2
   have hpr:∀c∈p.from_,0≤c∧c<f.blocks.length:=fun c hc=>by have:=List.all_eq_true.1 (hPh p hpm).2.2.2.2 c hc;simpa [du] using this
   have hbad:¬xd f i p.from_→cO f=false:=fun h=>fm hi2 (by rw[kp hget];exact Bool.eq_false_iff.2 (dA hj2 (by rw[hp];exact Bool.eq_false_iff.2 fun h2=>h ((xH hE i p).1 h2))))
   refine ze<|zb<|zg<|ah<|za (cH j jx Z1 Z Z Z (by rw[qq hj2,hp])) ?_
   refine ac Y0 Z1 Z Z<|zy (cs:=[.int .i64 0,.raw (.slice none 0 0),.raw (.slice none 0 0)]) Ze Z Z<|fun i6=>zt Z1 Z Z Z Z Z Z .head Z<|zx (yo (t:=6) Z .head)<|z7<|ah<|aw Z<|z7<|zb<|ah<|aq ji Z Z0 Z Z<|aM Z6 Z<|ae jl Z<|aa Z<|z7<|zg<|y7 (γ:=Nat) [1,3,6,13,14,15,21,22,23,29] (fun a=>[(30,.int .i64 a),(7,.int .i64 (bE (au f) a i).length)]) (fun a=>[]) (fun a=>a≤f.blocks.length) (fun a=>f.blocks.length - a) 0 eE aN (qt _) ?_
   rintro a ha
   refine ah<|ay Z Z<|z7<|zb<|zm Z (fun ca=>?_) (fun ca=>?_)
   ·have ha2:a<f.blocks.length:=by simp at ca;omega
    have hone:=vX (f:=f) a i
    have hle:=ld f i a
    refine ze<|zb<|zg<|ah<|aa Z<|aw Z<|z7<|ah<|ac js jk Z Z<|aa Z<|aa Z<|zi (lu f hn (a:Int) (i:Int) (by omega) (by omega)) Z<|z7<|zr Z (fun cl=>?_) (fun cl=>?_)
    ·have hl:(i:Int)∈au f a:=by simpa using cl
     rw[if_pos hl] at hone
     refine bi<|aa Z<|aC Z Z<|aw Z<|z7<|bi<|aC Z Z<|aa Z<|z7 ?_
     exact ⟨a+1,⟨rfl,rfl,rfl,rfl,rfl,rfl,rfl,rfl,rfl,rfl,trivial⟩,⟨rfl,(by rw[hone];rfl),trivial⟩,aN,ha2,by omega⟩
    ·have hl:¬(i:Int)∈au f a:=by simpa using cl
     rw[if_neg hl] at hone
     refine ze<|bi<|aC Z Z<|aa Z<|z7 ?_
     exact ⟨a+1,⟨rfl,rfl,rfl,rfl,rfl,rfl,rfl,rfl,rfl,rfl,trivial⟩,⟨rfl,(by rw[hone];rfl),trivial⟩,aN,ha2,by omega⟩
   ·have han:a=f.blocks.length:=by simp at ca;omega
    subst han
    refine zz<|zb<|ah<|aa Z<|aq jq Z jm Z Z<|aM jw Z<|ae jd Z<|za (yn Z Z)<|z7<|zr Z (fun cn=>?_) (fun cn=>?_)
    ·have hne:¬(bE (au f) f.blocks.length i).length=p.from_.length:=by have h0:¬((bE (au f) f.blocks.length i).length:Int)=(p.from_.length:Int):=(by simpa using cn);omega
     refine ah<|ad Z<|z7<|zf<|zh (x:=.bool _) Z ?_
     rw[hbad fun h=>hne h.1]
    ·have hne:(bE (au f) f.blocks.length i).length=p.from_.length:=by have h0:((bE (au f) f.blocks.length i).length:Int)=(p.from_.length:Int):=(by simpa using cn);omega
     refine ze<|ah<|aq jq Z jm Z Z<|aM jw Z<|ae jd Z<|aa Z<|z7<|zg<|y7 (γ:=Nat) [1,3,6,13,14,15,21,22,23,46,47] (fun k=>[(48,.int .i64 k)]) (fun k=>[]) (fun k=>k≤p.from_.length∧∀q (h:q<p.from_.length),q<k→(i:Int)∈au f p.from_[q]∧p.from_[q] ∉ p.from_.take q) (fun k=>p.from_.length - k) 0 aW aN (⟨qt _,fun q h h2=>by omega⟩) ?_
     rintro k ⟨hk,hok⟩
     refine ah<|ay Z Z<|z7<|zb<|zm Z (fun ck=>?_) (fun ck=>?_)
     ·have hk2:k<p.from_.length:=by simp at ck;omega
      obtain ⟨c,hc⟩:∃c,p.from_[k]=c:=⟨_,rfl⟩
      obtain ⟨hc0,hcn⟩:=hpr c (hc▸qu hk2)
      refine ze<|zb<|zg<|ah<|aa Z<|za (cH k jd je Z Z Z (by rw[qq hk2,hc])) ?_
      refine aE jj Z<|aw Z<|aw Z<|z7<|zb<|ah<|ac js jk Z Z<|aa Z<|aa Z<|zi (lu f hn c (i:Int) hc0 hcn) Z<|aD Z<|z7<|zr Z (fun cl=>?_) (fun cl=>?_)
      ·have hl:¬(i:Int)∈au f c:=by simpa using cl
       refine ah<|ad Z<|z7<|zf<|zh (x:=.bool _) Z ?_
       rw[hbad fun h=>hl (hc▸(h.2 k hk2).1)]
      ·have hl:(i:Int)∈au f c:=by simpa using cl
       refine ze<|ah<|aa Z<|aa Z<|z7<|zg<|y7 (γ:=Nat) [1,3,6,10,13,14,15,21,22,23,46,47,48,58] (fun q=>[(59,.int .i64 q)]) (fun q=>[]) (fun q=>q≤k∧c ∉ p.from_.take q) (fun q=>k - q) 0 aW aN (⟨qt _,by simp⟩) ?_
       rintro q ⟨hq,hqn⟩
       refine ah<|ay Z Z<|z7<|zb<|zm Z (fun cq=>?_) (fun cq=>?_)
       ·have hq2:q<k:=by omega
        have hq3:q<p.from_.length:=by omega
        refine ze<|zb<|zg<|ah<|aa Z<|aw Z<|z7<|ah<|aq jq Z jm Z Z<|aM jw Z<|aa Z<|za (cH q jd je Z Z Z (qq hq3))<|aE jj Z<|aa Z<|ax Z Z<|z7<|zr Z (fun ce=>?_) (fun ce=>?_)
        ·have he:p.from_[q]=c:=by simpa using ce
         have hin:c∈p.from_.take k:=by rw[←he];exact List.mem_take_iff_getElem.2 ⟨q,by omega,rfl⟩
         refine ah<|ad Z<|z7<|zf<|zh (x:=.bool _) Z ?_
         rw[hbad fun h=>(h.2 k hk2).2 (by rw[hc];exact hin)]
        ·have he:¬p.from_[q]=c:=by simpa using ce
         refine ze<|bi<|aC Z Z<|aa Z<|z7 ?_
         exact ⟨q+1,⟨rfl,rfl,rfl,rfl,rfl,rfl,rfl,rfl,rfl,rfl,rfl,rfl,rfl,rfl,trivial⟩,aW,aN,⟨hq2,fun hm=>by rw[qr hq3] at hm;rcases List.mem_append.1 hm with h1|h1;exact hqn h1;simp at h1;exact he h1.symm⟩,by omega⟩
       ·have hqn2:q=k:=by omega
        subst hqn2
        refine zz<|bi<|aC Z Z<|aa Z<|z7 ?_
        exact ⟨q+1,qJ,aW,aN,⟨hk2,fun r hr h2=>by rcases Nat.lt_succ_iff_lt_or_eq.1 h2 with h3|h3;exact hok r hr h3;subst h3;rw[hc];exact ⟨hl,hqn⟩⟩,by omega⟩
     ·have hkn:k=p.from_.length:=by simp at ck;omega
      subst hkn
      refine zz<|bi<|aC Z Z<|aa Z<|z7 ?_
      exact ⟨j+1,iM,aW,aN,⟨hj2,bX hj2 hjall (by rw[hp];exact (xH hE i p).2 ⟨hne,fun q hq=>hok q hq hq⟩)⟩,by omega⟩
  ·have hjn:j=b.phis.length:=by simp at cj;omega
   subst hjn
   rw[qv] at hjall
   refine zz<|bi<|aC Z Z<|aa Z<|z7 ?_
   exact ⟨i+1,hZ,aW,aN,⟨hi2,dk hall (by rw[kp hget];exact hjall)⟩,by omega⟩
 ·have hin:i=f.blocks.length:=by simp at ci;omega
  subst hin
  refine zz<|ah<|ad Z<|z7<|zf<|zh (x:=.bool _) Z ?_
  rw[show cO f=true from hall]
end
section
open Go.Proofs.Tryz
open Go.Proofs Go.Lib Go.Shelf Go.RowKit
variable {E:World}
set_option maxRecDepth 20000
theorem Es {f:ab} {v:Int} (h:bl f v=true):∃k:Nat,v=(k:Int)∧k<f.vars.length:=by
 have h1:0≤v∧v<f.vars.length:=by simpa [bl] using h
 exact ⟨v.toNat,by omega,by omega⟩
theorem gj (f:ab) (hE:br f) (hf:small f) {v:Int} (hv:bl f v=true) (b a:Int) (h0:0≤b) (hb:b<f.blocks.length):aZ prog E 51 [.agg (bQ f),.int .i64 v,.int .i64 b,.int .i64 a] (.bool (dL f (bx f v) b a)):=by
 obtain ⟨k,rfl,hk⟩:=Es hv
 exact qO f hE hf k b a h0 hb
theorem nW {f:ab} {i:Nat} {b:aB} (hi:i<f.blocks.length) (hg:f.blocks[i]?=some b) (h:nz f i b=false):jC f=false:=by
 unfold jC;rw[fm hi (by rw[mE hg];exact h)];simp
set_option maxHeartbeats 8000000 in
theorem pn (f:ab) (hE:br f) (hf:small f) (hS:bA f):aZ prog E 29 [.agg (bQ f)] (.bool (jC f)):=by
 have hn:=hf.2.2.1
 have hv:=hf.1
 have hG:=hE.grph
 refine zo func29 Z (by decide) Z<|ah<|yb (cs:=_) Z Z Z<|ad Z<|z7<|zb<|ah<|ac js jk Z Z<|zi (j8 f hE hf hS) Z<|aD Z<|z7<|zr Z (fun cj=>?_) (fun cj=>?_)
 ·have dj:cO f=false:=by simpa using cj
  refine ah<|ad Z<|z7<|zf<|zh (x:=.bool _) Z ?_
  rw[show jC f=false by unfold jC;rw[dj];rfl]
 ·have dj:cO f=true:=by simpa using cj
  refine ze<|ah<|ac js jk Z Z<|zi (lZ f hE hn (-1)) Z<|za (va Z)<|z7<|zb<|ah<|aq ji Z Y6 Z Z<|aM Yg Z<|ae Zb Z<|aa Z<|z7<|zg<|y7 (γ:=Nat) [1,3,23] (fun v=>[(24,.int .i64 v)]) (fun v=>[]) (fun v=>v≤f.vars.length∧(List.range v).all (mY f)=true) (fun v=>f.vars.length - v) 0 aW aN (⟨qt _,Z⟩) ?_
  rintro v ⟨hvl,hall⟩
  refine ah<|ay Z Z<|z7<|zb<|zm Z (fun cv=>?_) (fun cv=>?_)
  ·have hv2:v<f.vars.length:=by simp at cv;omega
   have hbad:mY f v=false→jC f=false:=fun h=>by unfold jC;rw[show rp f=false from fm hv2 h];simp
   refine ze<|zb<|zg<|ah<|aa Z<|aw Z<|z7<|ah<|ac js jk Z Z<|aa Z<|zi (nB f hf v) Z<|aw Z<|z7<|ah<|aa Z<|za (yy Z Z)<|ai Z<|zk (s:=32) Z (fun c1=>?_) (fun c1=>?_)
   ·have d1:1<(bq f v).length:=by have h0:(1:Int)<((bq f v).length:Int):=(by simpa using c1);omega
    refine z6 Z Z c1<|z6 Z Z c1<|z6 Z Z c1<|zd Z Z<|zd Z Z<|zd Z Z<|zd Z Z<|zd Z Z<|z6 Z Z c1<|ap Z c1 Z<|z7<|yt Z Z<|ah<|ad Z<|z7<|zf<|zh (x:=.bool _) Z ?_
    rw[hbad (by unfold mY;simp[d1])]
   ·have d1:¬1<(bq f v).length:=by have h0:¬(1:Int)<((bq f v).length:Int):=(by simpa using c1);omega
    refine z8 Z Z c1<|aa Z<|z8 Z Z c1<|za (yy Z Z)<|z8 Z Z c1<|ai Z<|zk (s:=35) Z (fun c2=>?_) (fun c2=>?_)
    ·have d2:0<(bq f v).length:=by have h0:(0:Int)<((bq f v).length:Int):=(by simpa using c2);omega
     refine z8 Z Z c2<|aa Z<|z8 Z Z c2<|aq ji Z jm Z Z<|z8 Z Z c2<|aM jw Z<|z8 Z Z c2<|ae jd Z<|z8 Z Z c2<|ay Z Z<|z8 Z Z c1<|ap Z c2 Z<|al Z c1 Z<|z7<|zr Z (fun c3=>?_) (fun c3=>?_)
     ·have d3:v<f.params.length:=by simpa using c3
      refine ah<|ad Z<|z7<|zf<|zh (x:=.bool _) Z ?_
      rw[hbad (by unfold mY;rw[w4 d2,w4 d3];simp)]
     ·have d3:¬v<f.params.length:=by simpa using c3
      refine ze<|bi<|aC Z Z<|aa Z<|z7 ?_
      exact ⟨v+1,hZ,aW,aN,⟨hv2,dk hall (by unfold mY;rw[w5 d1,w5 d3];simp)⟩,by omega⟩
    ·have d2:¬0<(bq f v).length:=by have h0:¬(0:Int)<((bq f v).length:Int):=(by simpa using c2);omega
     refine z6 Z Z c2<|z6 Z Z c2<|z6 Z Z c2<|z6 Z Z c2<|z6 Z Z c2<|z8 Z Z c1<|al Z c2 Z<|al Z c1 Z<|z7<|yp Z Z<|ze<|bi<|aC Z Z<|aa Z<|z7 ?_
     exact ⟨v+1,hZ,aW,aN,⟨hv2,dk hall (by unfold mY;rw[w5 d1,w5 d2];rfl)⟩,by omega⟩
  ·have hvn:v=f.vars.length:=by simp at cv;omega
   subst hvn
   have donce:rp f=true:=hall
   refine zz<|zb<|ah<|aq ji Z Z0 Z Z<|aM Z6 Z<|ae jl Z<|aa Z<|z7<|zg<|y7 (γ:=Nat) [1,3,45,46] (fun i=>[(47,.int .i64 i)]) (fun i=>[]) (fun i=>i≤f.blocks.length∧(List.range i).all (JZ f)=true) (fun i=>f.blocks.length - i) 0 aW aN (⟨qt _,Z⟩) ?_
   rintro i ⟨hi,hiall⟩
   refine ah<|ay Z Z<|z7<|zb<|zm Z (fun ci=>?_) (fun ci=>?_)
   ·have hi2:i<f.blocks.length:=by simp at ci;omega
    obtain ⟨b,hbi⟩:∃b,f.blocks[i]=b:=⟨_,rfl⟩
    have hget:f.blocks[i]?=some b:=by rw[qq hi2,hbi]
    have hmem:b∈f.blocks:=hbi▸qu hi2
    obtain ⟨hb0,hb1,hb2,hb3,hb4⟩:=hf.2.2.2.2 b hmem
    obtain ⟨hPh,hIn,hTm⟩:=hS.2.2.2.2.2 b hmem
    have hth:=ln (E:=au f) (shut:=-1) hi2
    refine ze<|zb<|zg<|ah<|aa Z<|za (cH i jl jv Z Z Z hget)<|ac Zu jv Z Z<|zy (cs:=[.str ⟨#[]⟩,.raw (.slice none 0 0),.raw (.slice none 0 0),.int .i64 0,.int .i64 0,.int .i64 0,.int .i64 0]) Zc Z Z<|fun i7=>aw Z<|zt jv Z Z Z Z Z Z .head Z<|zx (yo (t:=7) Z .head)<|z7<|zb<|ah<|bC Z<|aa Z<|za (cH i jn Z3 Z Z Z hth)<|za (qg (c:=.bool _) Yc Z)<|aD Z<|z7<|zr Z (fun cr=>?_) (fun cr=>?_)
    ·have dr:¬tj (au f) (i:Int):=fun h=>by simp at cr;exact cr ((xa hG).2 h)
     refine ah<|ad Z<|z7<|zf<|zh (x:=.bool _) Z ?_
     rw[nW hi2 hget (by unfold nz;simp[dr])]
    ·have dr:tj (au f) (i:Int):=by simp at cr;exact (xa hG).1 cr
     refine ze<|zb<|ah<|aq jh Z Zf Z Z<|aM Zv Z<|ae jx Z<|aa Z<|z7<|zg<|y7 (γ:=Nat) [1,3,6,7,45,46,47,58,59] (fun j=>[(60,.int .i64 j)]) (fun j=>[]) (fun j=>j≤b.phis.length∧(b.phis.take j).all (JW f)=true) (fun j=>b.phis.length - j) 0 aW aN (⟨qt _,Z⟩) ?_
     rintro j ⟨hj,hjall⟩
     refine ah<|ay Z Z<|z7<|zb<|zm Z (fun cjj=>?_) (fun cjj=>?_)
     ·have hj2:j<b.phis.length:=by simp at cjj;omega
      obtain ⟨p,hp⟩:∃p,b.phis[j]=p:=⟨_,rfl⟩
      have hpm:p∈b.phis:=hp▸qu hj2
      obtain ⟨hpd,hpl,hpn,hpa,hpf⟩:=hPh p hpm
      have hpb:=hb3 p hpm
      refine ze<|zb<|zg<|ah<|za (cH j jx Z1 Z Z Z (by rw[qq hj2,hp])) ?_
      refine ac Y0 Z1 Z Z<|zy (cs:=[.int .i64 0,.raw (.slice none 0 0),.raw (.slice none 0 0)]) Ze Z Z<|fun i9=>zt Z1 Z Z Z Z Z Z .head Z<|zx (yo (t:=9) Z .head)<|z7<|ah<|aq jq Z jm Z Z<|aM jw Z<|ae jd Z<|aa Z<|z7<|zg<|y7 (γ:=Nat) [1,3,6,7,9,45,46,47,58,59,60,65,66] (fun k=>[(67,.int .i64 k)]) (fun k=>[]) (fun k=>k≤p.args.length∧((p.args.zip p.from_).take k).all (fun q=>dL f (bx f q.1) q.2 (g9 f q.2))=true) (fun k=>p.args.length - k) 0 aW aN (⟨qt _,Z⟩) ?_
      rintro k ⟨hk,hkall⟩
      refine ah<|ay Z Z<|z7<|zb<|zm Z (fun ck=>?_) (fun ck=>?_)
      ·have hk2:k<p.args.length:=by simp at ck;omega
       have hk3:k<p.from_.length:=by omega
       obtain ⟨v,hv⟩:∃v,p.args[k]=v:=⟨_,rfl⟩
       obtain ⟨c,hc⟩:∃c,p.from_[k]=c:=⟨_,rfl⟩
       have hvv:=List.all_eq_true.1 hpa v (hv▸qu hk2)
       have hcr:0≤c∧c<f.blocks.length:=by have:=List.all_eq_true.1 hpf c (hc▸qu hk3);simpa [du] using this
       obtain ⟨d,hd⟩:∃d,f.blocks[c.toNat]'(by omega)=d:=⟨_,rfl⟩
       have hdg:f.blocks[c.toNat]?=some d:=by rw[qq (by omega),hd]
       have hla:g9 f c=d.insts.length:=by unfold g9;rw[hdg];rfl
       have hz:k<(p.args.zip p.from_).length:=by rw[List.length_zip];omega
       have hzk:(p.args.zip p.from_)[k]=(v,c):=by rw[List.getElem_zip,hv,hc]
       refine ze<|zb<|zg<|ah<|aa Z<|za (cH k jd je Z Z Z (by rw[qq hk2,hv])) ?_
       refine aE jj Z<|aw Z<|aw Z<|z7<|zb<|zq (fun j=>false) (by kernel_rfl) Z (zu (.rest _))<|ak 0 Z (yv js jk Z Z)<|ak 1 Z (d9 Z)<|ak 2 Z (eK jq Z jm Z Z)<|ak 3 Z (lL jw Z)<|ak 4 Z (d9 Z)<|ak 5 Z (cH k jd je Z Z Z (by rw[qq hk3,hc])) ?_
       refine ak 6 Z (gH jj Z)<|ak 7 Z (eK ji Z Z0 Z Z)<|ak 8 Z (lL Z6 Z)<|ak 9 Z (eK jq Z jm Z Z)<|ak 10 Z (lL jw Z)<|ak 11 Z (d9 Z)<|ak 12 Z (cH k jd je Z Z Z (by rw[qq hk3,hc])) ?_
       refine ak 13 Z (gH jj Z)<|ak 14 Z (cH c.toNat jl jv Z Z (by omega) hdg)<|ak 15 Z (eK jh Z Zi Z Z)<|ak 16 Z (lL Zy Z)<|ak 17 Z (Gv.lenM jz Z)<|bO 18 Z<|zi (gj f hE hf hvv c d.insts.length hcr.1 hcr.2) Z<|z7<|ak 19 Z (Gv.not Z)<|eG<|zr Z (fun cq=>?_) (fun cq=>?_)
       ·have hq:dL f (bx f v) c (g9 f c)=false:=by rw[hla];simpa using cq
        refine ah<|ad Z<|z7<|zf<|zh (x:=.bool _) Z ?_
        rw[nW hi2 hget (by unfold nz;rw[show b.phis.all (JW f)=false from Bool.eq_false_iff.2 (dA hj2 (by rw[hp];unfold JW;exact Bool.eq_false_iff.2 (dA hz (by rw[hzk];exact hq))))];simp)]
       ·have hq:dL f (bx f v) c (g9 f c)=true:=by rw[hla];simpa using cq
        refine ze<|bi<|aC Z Z<|aa Z<|z7 ?_
        exact ⟨k+1,⟨rfl,rfl,rfl,rfl,rfl,rfl,rfl,rfl,rfl,rfl,rfl,rfl,rfl,trivial⟩,aW,aN,⟨hk2,bX hz hkall (by rw[hzk];exact hq)⟩,by omega⟩
      ·have hkn:k=p.args.length:=by simp at ck;omega
       have hzl:(p.args.zip p.from_).length=p.args.length:=by rw[List.length_zip];omega
       rw[hkn,←hzl,qv] at hkall
       refine zz<|bi<|aC Z Z<|aa Z<|z7 ?_
       exact ⟨j+1,tF,aW,aN,⟨hj2,bX hj2 hjall (by rw[hp];exact hkall)⟩,by omega⟩
     ·have hjn:j=b.phis.length:=by simp at cjj;omega
      subst hjn
      rw[qv] at hjall
      refine zz<|zb<|ah<|aq jh Z Zi Z Z<|aM Zy Z<|ae jz Z<|aa Z<|z7<|zg<|y7 (γ:=Nat) [1,3,6,7,45,46,47,95,96] (fun k=>[(97,.int .i64 k)]) (fun k=>[]) (fun k=>k≤b.insts.length∧((b.insts.zipIdx).take k).all (JX f i)=true) (fun k=>b.insts.length - k) 0 aW aN (⟨qt _,Z⟩) ?_
      rintro k ⟨hk,hkall⟩
      refine ah<|ay Z Z<|z7<|zb<|zm Z (fun ck=>?_) (fun ck=>?_)
      ·have hk2:k<b.insts.length:=by simp at ck;omega
       obtain ⟨z,hzk⟩:∃z,b.insts[k]=z:=⟨_,rfl⟩
       have hzm:z∈b.insts:=hzk▸qu hk2
       have hI:=lQ (hIn z hzm)
       have hzl:=hb4 z hzm
       have hzi:k<b.insts.zipIdx.length:=by simp;exact hk2
       have hze:b.insts.zipIdx[k]=(z,k):=by simp[hzk]
       refine ze<|zb<|zg<|ah<|aa Z<|za (cH k jz Z5 Z Z Z (by rw[qq hk2,hzk])) ?_
       refine ac Yd Z5 Z Z<|zy (cs:=[.int .i64 0,.int .i64 0,.raw (.slice none 0 0),.int .i64 0]) Y3 Z Z<|fun i13=>aw Z<|zt Z5 Z Z Z Z Z Z .head Z<|zx (yo (t:=13) Z .head)<|z7<|ah<|aq jp Z jm Z Z<|aM jw Z<|ae jd Z<|aa Z<|z7<|zg<|y7 (γ:=Nat) [1,3,6,7,12,45,46,47,95,96,97,103,104] (fun m=>[(105,.int .i64 m)]) (fun m=>[]) (fun m=>m≤z.args.length∧(z.args.take m).all (fun v=>dL f (bx f v) i k)=true) (fun m=>z.args.length - m) 0 aW aN (⟨qt _,Z⟩) ?_
       rintro m ⟨hm,hmall⟩
       refine ah<|ay Z Z<|z7<|zb<|zm Z (fun cm=>?_) (fun cm=>?_)
       ·have hm2:m<z.args.length:=by simp at cm;omega
        obtain ⟨v,hv⟩:∃v,z.args[m]=v:=⟨_,rfl⟩
        have hvv:=hI.args v (hv▸qu hm2)
        refine ze<|zb<|zg<|ah<|za (cH m jd je Z Z Z (by rw[qq hm2,hv])) ?_
        refine aE jj Z<|aw Z<|z7<|ah<|ac js jk Z Z<|aa Z<|aa Z<|aa Z<|zi (gj f hE hf hvv (i:Int) (k:Int) (by omega) (by omega)) Z<|aD Z<|z7<|zr Z (fun cq=>?_) (fun cq=>?_)
        ·have hq:dL f (bx f v) i k=false:=by simpa using cq
         refine ah<|ad Z<|z7<|zf<|zh (x:=.bool _) Z ?_
         rw[nW hi2 hget (by unfold nz;rw[show b.insts.zipIdx.all (JX f i)=false from Bool.eq_false_iff.2 (dA hzi (by rw[hze];unfold JX;exact Bool.eq_false_iff.2 (dA hm2 (by rw[hv];exact hq))))];simp)]
        ·have hq:dL f (bx f v) i k=true:=by simpa using cq
         refine ze<|bi<|aC Z Z<|aa Z<|z7 ?_
         exact ⟨m+1,⟨rfl,rfl,rfl,rfl,rfl,rfl,rfl,rfl,rfl,rfl,rfl,rfl,rfl,trivial⟩,aW,aN,⟨hm2,bX hm2 hmall (by rw[hv];exact hq)⟩,by omega⟩
       ·have hmn:m=z.args.length:=by simp at cm;omega
        rw[hmn,qv] at hmall
        refine zz<|bi<|aC Z Z<|aa Z<|z7 ?_
        exact ⟨k+1,tF,aW,aN,⟨hk2,bX hzi hkall (by rw[hze];exact hmall)⟩,by omega⟩
      ·have hkn:k=b.insts.length:=by simp at ck;omega
       rw[hkn,show b.insts.length=b.insts.zipIdx.length by simp,qv] at hkall
       refine zz<|ah<|aq jh Z Z4 Z Z<|aq jg Z Zn Z Z<|aE Zs Z<|za (yn Z Z)<|ai Z<|zk (s:=121) Z (fun c0=>?_) (fun c0=>?_)
       ·have d0:¬b.term.kind=0:=by simpa using c0
        refine z8 Z Z c0<|ac js jk Z Z<|z8 Z Z c0<|aq jh Z Z4 Z Z<|z8 Z Z c0<|aq jg Z je Z Z<|z8 Z Z c0<|aE jj Z<|z8 Z Z c0<|aa Z<|z8 Z Z c0<|aq jh Z Zi Z Z<|z8 Z Z c0<|aM Zy Z<|z8 Z Z c0<|ae jz Z<|z8 Z Z c0<|zi (gj f hE hf (f8 hTm d0) (i:Int) (b.insts.length:Int) (by omega) (by omega)) Z<|z8 Z Z c0<|aD Z<|ap Z c0 Z<|z7<|zr Z (fun cq=>?_) (fun cq=>?_)
        ·have hq:dL f (bx f b.term.var) i b.insts.length=false:=by simpa using cq
         refine ah<|ad Z<|z7<|zf<|zh (x:=.bool _) Z ?_
         rw[nW hi2 hget (by unfold nz JY;rw[hq,w5 d0];simp)]
        ·have hq:dL f (bx f b.term.var) i b.insts.length=true:=by simpa using cq
         refine ze<|bi<|aC Z Z<|aa Z<|z7 ?_
         exact ⟨i+1,gY,aW,aN,⟨hi2,dk hiall (by rw[mE hget];unfold nz JY;rw[hjall,hkall,hq];simp[dr])⟩,by omega⟩
       ·have d0:b.term.kind=0:=by simpa using c0
        refine z6 Z Z c0<|z6 Z Z c0<|z6 Z Z c0<|z6 Z Z c0<|z6 Z Z c0<|z6 Z Z c0<|z6 Z Z c0<|z6 Z Z c0<|z6 Z Z c0<|z6 Z Z c0<|al Z c0 Z<|z7<|yp Z Z<|ze<|bi<|aC Z Z<|aa Z<|z7 ?_
        exact ⟨i+1,gY,aW,aN,⟨hi2,dk hiall (by rw[mE hget];unfold nz JY;rw[hjall,hkall,d0];simp[dr])⟩,by omega⟩
   ·have hin:i=f.blocks.length:=by simp at ci;omega
    subst hin
    refine zz<|ah<|ad Z<|z7<|zf<|zh (x:=.bool _) Z ?_
    rw[show jC f=true by unfold jC;rw[dj,donce,hiall];rfl]
end
section
open Go.Proofs.Tryz
open Go.Proofs Go.Lib Go.Shelf Go.RowKit
variable {E:World}
set_option maxRecDepth 20000
theorem eP (f:ab) (v:Int) (hv:bl f v=true):aZ prog E 47 [.agg (bQ f),.int .i64 v] (.int .i64 (bp f v)):=by
 obtain ⟨x,hx,hv2,hk⟩:=tH hv
 rw[hk]
 refine zo func47 Z (by decide) Z<|ah<|yb (cs:=_) Z Z Z<|aw Z<|z7<|ah<|aq ji Z Y6 Z Z<|aM Yg Z<|aa Z<|za (cH v.toNat Zb Y7 Z Z hv2 hx)<|aq Zm Z sizeOf64 Z Z<|aE isAgg64 Z<|aw Z<|z7<|zf<|zh (x:=.int _ _) Z ?_
 rfl
theorem pp (c:Int):aZ prog E 49 [.int .u8 c] (.int .i64 (dx c)):=by
 refine zo func49 Z (by decide) Z<|ah<|aw Z<|z7<|zb<|ah<|aa Z<|z7<|zg<|ah<|ax Z Z<|ad Z<|z7<|zr Z (fun c1=>?_) (fun c1=>?_)
 ·refine ah<|aw Z<|z7<|zf<|zh (x:=.int _ _) Z ?_
  unfold dx;simp_all
 ·refine ah<|ax Z Z<|ad Z<|z7<|zr Z (fun c2=>?_) (fun c2=>?_)
  ·refine ah<|aw Z<|z7<|zf<|zh (x:=.int _ _) Z ?_
   unfold dx;simp_all
  ·refine ze<|ah<|aw Z<|z7<|zf<|zh (x:=.int _ _) Z ?_
   unfold dx;simp_all
theorem CI:∀j:Nat,j<27→decide ((bM (j:Int)).1=⟨#[99,111,112,121]⟩)=decide (j=1):=by decide
theorem nX {op:Int} (h:0≤op∧op≤26):((bM op).1=⟨#[99,111,112,121]⟩)↔op=1:=by
 have h1:=CI op.toNat (by omega)
 rw[w8 h.1] at h1
 constructor
 ·intro e
  have:decide (op.toNat=1)=true:=by rw[←h1];exact w4 e
  have:=w9 this
  omega
 ·intro e
  have h2:op.toNat=1:=by omega
  have:decide ((bM op).1=⟨#[99,111,112,121]⟩)=true:=by rw[h1];exact w4 h2
  exact w9 this
theorem pq {op:Int} (h:0≤op∧op≤26):fI[op.toNat]?=some (bM op):=by
 unfold bM
 have hl:op.toNat<fI.length:=by have:fI.length=27:=rfl;omega
 rw[if_pos h.1,qq hl];rfl
def fL (f:ab) (x:bc):List Int:=if x.op=1 then[bp f x.dst] else bw x.op
theorem CJ {f:ab} {x:bc} (h:eu f x):x.args.length=(fL f x).length:=by
 rw[h.len]
 unfold fL
 split
 ·rename_i e;rw[e];rfl
 ·rfl
theorem pt {f:ab} {x:bc} (h:eu f x):ic f x=(decide (x.args.map (bp f)=fL f x)&&(!cQ x.op||(decide (x.op=1)||decide (bp f x.dst=jS x.op)))):=by
 unfold ic fL
 by_cases e:x.op=1
 ·have hl:=h.len
  rw[e,show (bw 1).length=1 from rfl] at hl
  obtain ⟨a,ha⟩:=List.length_eq_one_iff.1 hl
  rw[if_pos e,if_pos e,ha]
  simp[e]
  exact eq_comm
 ·rw[if_neg e,if_neg e];simp[e]
theorem vY {op:Int} {m:Nat} (h:m<(bw op).length):∃c:UInt8,(bM op).2.1.data[m]?=some c∧(bw op)[m]=dx (c.toNat:Int):=by
 have h1:m<(bM op).2.1.data.size:=by rw[mB] at h;exact h
 have e:(bw op)[m]?=((bM op).2.1.data.toList[m]?).map fun b=>dx b.toNat:=by unfold bw;rw[qy]
 rw[qq h,Array.getElem?_toList,Array.getElem?_eq_getElem h1] at e
 exact ⟨(bM op).2.1.data[m],by rw[Array.getElem?_eq_getElem h1],by simpa using e⟩
theorem vZ {op:Int} (h:¬(bM op).2.2=⟨#[]⟩):∃c:UInt8,(bM op).2.2.data[0]?=some c∧jS op=dx (c.toNat:Int):=by
 unfold jS
 generalize (bM op).2.2=m at h ⊢
 obtain ⟨⟨l⟩⟩:=m
 cases l with
 |nil=>exact absurd rfl h
 |cons c l=>exact ⟨c,by simp,rfl⟩
end
end Go.Proofs.YtjpnhkmfhlnpcaaGreatDoor
