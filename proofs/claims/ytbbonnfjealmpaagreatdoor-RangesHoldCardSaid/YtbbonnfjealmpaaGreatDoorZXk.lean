/- An open order in which some of what is owned is only read, while other things are written. No conditions. -/
import Derived.Test.YtbbonnfjealmpaaGreatDoorZXj
import Derived.Test.YtbbonnfjealmpaaGreatDoorZXg
import Derived.Test.YtbbonnfjealmpaaGreatDoorZXi
import Derived.Test.YtbbonnfjealmpaaGreatDoorZXd
import Derived.Test.YtbbonnfjealmpaaGreatDoorZXe
import Derived.Test.YtbbonnfjealmpaaGreatDoorChecked
import Derived.Test.YtbbonnfjealmpaaGreatDoorZXb
import Derived.Test.YtbbonnfjealmpaaGreatDoorZXf
import Derived.Test.YtbbonnfjealmpaaGreatDoorZXc
set_option linter.unusedVariables false
set_option linter.unusedSimpArgs false
set_option linter.unusedSectionVars false
namespace Go.Proofs.YtbbonnfjealmpaaGreatDoor
section
open Go.Proofs.Tryz
open Go.Proofs
theorem gS.at_ {f:ab}:∀{l done:List Int} {m:Nat} {b:Int},gS f done l→l[m]?=some b→(0≤b∧b<f.q.length)∧(0≤nearD f b→nearD f b∈done++l.take m)
 |[],_,_,_,_,h=>by simp at h
 |c::l,done,0,b,h,e=>by
  cases e;exact ⟨h.1,fun k=>by rw[List.take_zero,w8];exact h.2.1 k⟩
 |c::l,done,m+1,b,h,e=>by
  have h1:=gS.at_ (m:=m) (b:=b) h.2.2 e;refine ⟨h1.1,fun k=>?_⟩;have h2:=h1.2 k;rw[qv] at h2;exact h2
theorem gS.pre {f:ab}:∀{l done:List Int} (m:Nat),gS f done l→gS f done (l.take m)
 |[],_,m,h=>by rw[List.take_nil];exact h
 |_::_,_,0,_=>trivial
 |_::_,_,m+1,h=>⟨h.1,h.2.1,gS.pre m h.2.2⟩
abbrev kr (f:ab):List Int:=iD f f.q.length 0
def su (f:ab) (m:Nat):vQ:=((kr f).take m).foldl (k8 f) (yF f)
theorem yN (f:ab):su f (kr f).length=cg f:=by unfold su;rw[qy];rfl
theorem sN {α β:Type} {g:β→α→β} {l:List α} {k:Nat} {x:α} (p:β) (h:l[k]?=some x):(l.take (k+1)).foldl g p=g ((l.take k).foldl g p) x:=by
 obtain ⟨h1,h2⟩:=List.getElem?_eq_some_iff.1 h;rw[qu h1,List.foldl_append,h2];rfl
theorem Ju {f:ab} {m:Nat} {b:Int} (h:(kr f)[m]?=some b):su f (m+1)=k8 f (su f m) b:=sN _ h
theorem pU (f:ab) (p:gL) (v:Int) (x:aB):(fp f p v x).1.now.length=p.1.now.length:=by
 unfold fp;split
 ·rfl
 show (p.1.now.set _ _).length=_;rw[List.length_set]
theorem B4 (f:ab) (p:gL) (r:uI):(gZ f p r).1.now.length=p.1.now.length:=by unfold gZ;rw[pU,pU]
theorem Jv (f:ab) (p:gL) (x:aB):(gC f p x).1.now.length=p.1.now.length:=by
 unfold gC;split
 ·rw[pU]
 rfl
theorem nO {α:Type} {g:gL→α→gL} (h:∀p x,(g p x).1.now.length=p.1.now.length):∀(l:List α) (p:gL),(l.foldl g p).1.now.length=p.1.now.length
 |[],_=>rfl
 |x::l,p=>(nO h l (g p x)).trans (h p x)
def oT (f:ab) (S:sr) (b:Int) (i:Nat):gL:=((jT f b).take i).foldl (gZ f) (S,[])
def nq (f:ab) (S:sr) (b:Int) (i:Nat):gL:=((aQ f b).s.take i).foldl (gC f) ((jT f b).foldl (gZ f) (S,[]))
theorem Jw (f:ab) (S:sr) (b:Int) (i:Nat):(oT f S b i).1.now.length=S.now.length:=nO (B4 f) _ _
theorem B5 (f:ab) (S:sr) (b:Int) (i:Nat):(nq f S b i).1.now.length=S.now.length:=(nO (Jv f) _ _).trans (nO (B4 f) _ _)
theorem GB {f:ab} {S:sr} {b:Int} {i:Nat} {r:uI} (h:(jT f b)[i]?=some r):oT f S b (i+1)=gZ f (oT f S b i) r:=sN _ h
theorem GC {f:ab} {S:sr} {b:Int} {i:Nat} {x:aB} (h:(aQ f b).s[i]?=some x):nq f S b (i+1)=gC f (nq f S b i) x:=sN _ h
theorem Jx (f:ab) (S:sr) (b:Int):oT f S b (jT f b).length=nq f S b 0:=by unfold oT nq;rw[qy];rfl
theorem Jy (f:ab) (S:sr) (b:Int):nq f S b (aQ f b).s.length=dU f S b:=by unfold nq dU;rw[qy]
structure PH (f:ab) (p:gL):Prop where
 v:p.1.v.length≤40000
 k:p.1.k≤5000000
 ins:p.2.length≤4000
theorem oR.mid {f:ab} {b m q:Nat} {p:gL} (h:oR f b p m q) (hv:f.v.length≤100) (hb:b≤32100) (hm:m≤2000) (hq:q≤4000):PH f p:=by
 obtain ⟨⟨k1,k2⟩,h2,h3⟩:=h;have h4:(p.1.v.length - f.v.length)*(f.v.length+2)≤36000*102:=Nat.mul_le_mul (by omega) (by omega);exact ⟨by omega,by omega,by omega⟩
section
variable {f:ab} (hR:bq f)
include hR
theorem B6:(kr f).length≤f.q.length:=uQ hR _ ⟨Int.le_refl _,by have:=hR.hE.pos;omega⟩
theorem yO (m:Nat):md f (su f m) ((kr f).take m):=by
 have hn:=kn hR f.q.length 0 ⟨Int.le_refl _,by have:=hR.hE.pos;omega⟩;have:=md.all hR.inf ((kr f).take m) (md.first f) (fun _ h=>by cases h) (hR.ordB.pre m) (by rw[List.nil_append];exact hn.sublist (List.take_sublist _ _))
 rwa [List.nil_append] at this
theorem Lz {m:Nat} {b:Int} (hb:(kr f)[m]?=some b):(dP f (su f m) b).now.length=f.v.length:=by
 have hB:=(hR.ordB.at_ hb).2;rw[List.nil_append] at hB;show (if 0≤nearD f b then fq (su f m).ends (nearD f b) else ba f.v.length).length=_;split
 ·rename_i k;exact ((yO hR m).ends _ (hB k)).len
 exact cA _
theorem Jz {m:Nat} {b:Int} (hb:(kr f)[m]?=some b) (h:0≤nearD f b):(nearD f b).toNat<f.q.length∧(su f m).ends[(nearD f b).toNat]?=some (fq (su f m).ends (nearD f b))∧(fq (su f m).ends (nearD f b)).length=f.v.length:=by
 have hB:=(hR.ordB.at_ hb).2 h;rw[List.nil_append] at hB;have hr:=(gU hR _ 0 ⟨Int.le_refl _,by have:=hR.hE.pos;omega⟩ _ (List.mem_of_mem_take hB)).2;have he:=(yO hR m).el;refine ⟨by omega,?_,((yO hR m).ends _ hB).len⟩;unfold fq;rw[qt (by omega)];rfl
theorem LA {b:Int} (h:0≤b∧b<f.q.length):(cg f).ends[b.toNat]?=some (fq (cg f).ends b)∧(fq (cg f).ends b).length=f.v.length:=by
 have hW:=me hR;have he:=hW.el;refine ⟨?_,(hW.ends _ (hR.ordAll h)).len⟩;unfold fq;rw[qt (by omega)];rfl
variable (hv:f.v.length≤100) (hn:f.q.length≤40) (hi:∀b∈f.q,b.s.length≤400)
include hv hn hi
theorem EU {m:Nat} (hm:m≤(kr f).length):pS f (su f m) m:=by
 have hp:(0:Int)≤0∧(0:Int)<f.q.length:=⟨Int.le_refl _,by have:=hR.hE.pos;omega⟩;have:=pS.all ((kr f).take m) (pS.first f) fun b hb=>⟨ET hR b,by
  have hr:=(gU hR _ 0 hp _ (List.mem_of_mem_take hb)).2;exact hi _ (cU hr.1 hr.2)⟩
 rw[w9,Nat.min_eq_left hm,Nat.zero_add] at this;exact this
theorem Nw {m:Nat} (hm:m≤(kr f).length):(su f m).v.length≤32100∧(su f m).k≤3264000:=(EU hR hv hn hi hm).few hv (by have:=B6 hR;omega)
theorem EV {m:Nat} (hm:m≤(kr f).length) (b:Int) {i:Nat} (h:i≤(jT f b).length):oR f (su f m).v.length (oT f (dP f (su f m) b) b i) (2*i) (2*i):=by
 have h0:oR f (su f m).v.length (dP f (su f m) b,[]) 0 0:=⟨(EU hR hv hn hi hm).k,⟨Nat.le_refl _,Nat.le_refl _⟩,Nat.le_refl _⟩;have:=oR.rels ((jT f b).take i) h0;rw[w9,Nat.min_eq_left h,Nat.zero_add] at this;exact this
theorem LB {m:Nat} (hm:m≤(kr f).length) (b:Int) {i:Nat} (h:i≤(aQ f b).s.length):oR f (su f m).v.length (nq f (dP f (su f m) b) b i) (2*(jT f b).length+i) (2*(jT f b).length+2*i):=by
 have h0:=EV hR hv hn hi hm b (Nat.le_refl (jT f b).length);unfold oT at h0;rw[qy] at h0;have:=oR.inss ((aQ f b).s.take i) h0;rw[w9,Nat.min_eq_left h] at this;exact this
end
end
section
open Go.Proofs.Tryz
open Go.Proofs Go.Lib Go.Shelf Go.RowKit
variable {E:World}
set_option maxRecDepth 20000
theorem sO {f:ab} {a b:Nat} (h:b<f.q.length):(qQ f a)[b]?=some (domF f a b):=Ih h
theorem vg {n k:Nat} (h:k<n):(ba n)[k]?=some (k:Int):=by unfold ba;rw[w3,List.getElem?_range h];rfl
def vU (f:ab) (a b:Int) (x:Int):Bool:=!(!decide (x=b)&&domF f x b)||domF f x a
theorem JA {p:Int→Bool} {n k:Nat} (h:((ba n).take k).all (fun a=>!p a)=true) (hk:k<n) (hp:p k=true):(ba n).find? p=some (k:Int):=by
 rw[←List.take_append_drop k (ba n),List.find?_append,List.find?_eq_none.2 (fun a ha=>by have:=List.all_eq_true.1 h a ha;simpa using this),Lw (vg hk)];simp[List.find?_cons,hp]
set_option maxHeartbeats 4000000 in
theorem rU (f:ab) (hn:f.q.length≤1000) (b:Nat) (hb:b<f.q.length):aS prog E 24 [C7 (oK f),.i b] (.i (nearD f b)):=by
 have htl:=iM f;unfold C7;refine zm func24 U (by decide) U<|Z<|ap U<|Y<|za<|Z<|bj U<|am X1 U<|C U<|Y<|zd<|zu (γ:=Nat) [0,1,9] (fun k=>[(10,.i k)]) (fun k=>[]) (fun k=>k≤f.q.length∧((ba f.q.length).take k).all (fun a=>!isNear f a b)=true) (fun k=>f.q.length - k) 0 aN aJ (⟨qw _,U⟩) ?_;rintro k ⟨hk,hall⟩;refine Z<|aq U U<|Y<|za<|zh U (fun ck=>?_) (fun ck=>?_)
 ·have hk2:k<f.q.length:=by omega
  have hsu:((ba f.q.length).take (k+1)).all (fun a=>!isNear f a b)=!isNear f k b:=by
   rw[List.take_add_one,vg hk2,List.all_append,hall];simp
  have his:isNear f k b=((!decide ((k:Int)=b)&&domF f k b)&&(ba f.q.length).all (vU f k b)):=rfl;refine zc<|za<|zd<|Z<|C U<|ap U<|Y<|za<|za<|y3 (γ:=Bool) [0,1,5,9,10] (fun u=>[(25,.bool u)]) (fun u=>[]) (fun u=>u=!(!decide ((k:Int)=b)&&domF f k b)) ?_ (fun _ _ h=>h) ?_
  ·refine bZ<|C U<|C U<|au U U<|aw U<|zo (s:=16) U (fun c1=>?_) (fun c1=>?_)
   ·refine H U U c1<|H U U c1<|H U U c1<|H U U c1<|H U U c1<|H U U c1<|H U U c1<|H U U c1<|aA U c1 U<|Y ?_;exact ⟨_,(by repeat (first|with_reducible exact yc _ _|refine yk rfl ?_|exact lf)),aN,aJ,by simp_all⟩
   refine M U U c1<|bj U<|M U U c1<|C U<|M U U c1<|X (bD k X1 Yi U U U (m8 hk2))<|M U U c1<|aK Yu U<|M U U c1<|C U<|M U U c1<|X (bD b ju Zc U U U (sO hb))<|M U U c1<|X (q8 (c:=.bool _) Yn U)<|M U U c1<|aL U<|ay U c1 U<|Y ?_;exact ⟨_,(by repeat (first|with_reducible exact yc _ _|refine yk rfl ?_|exact lf)),aN,aJ,by simp_all⟩
  rintro u hu;refine zq U (fun cu=>?_) (fun cu=>?_)
  ·have h0:isNear f k b=false:=by
    rw[his,show (!decide ((k:Int)=b)&&domF f k b)=false by cases h:(!decide ((k:Int)=b)&&domF f k b) with|false=>rfl|true=>rw[hu,h] at cu;cases cu];rfl
   refine zt<|bQ U U ?_;exact ⟨k+1,eX,aN,aJ,⟨hk2,by rw[hsu,h0];rfl⟩,by omega⟩
  have h0:(!decide ((k:Int)=b)&&domF f k b)=true:=by
   cases h:(!decide ((k:Int)=b)&&domF f k b) with
   |true=>rfl
   |false=>rw[hu,h] at cu;cases cu
  rw[h0,Bool.true_and] at his;refine zc<|Z<|ah U<|Y<|za<|Z<|bj U<|am X1 U<|C U<|Y<|zd<|zu (γ:=Nat × Bool) [0,1,5,9,10,27] (fun g=>[(28,.i g.1),(6,.bool g.2)]) (fun g=>[]) (fun g=>g.1≤f.q.length∧g.2=((ba f.q.length).take g.1).all (vU f k b)) (fun g=>f.q.length - g.1) (0,true) cV aJ (⟨qw _,U⟩) ?_;rintro ⟨x,ok⟩ ⟨hx,hok⟩;try dsimp only at *
  refine Z<|aq U U<|Y<|za<|zh U (fun cx=>?_) (fun cx=>?_)
  ·have hx2:x<f.q.length:=by omega
   have hsx:((ba f.q.length).take (x+1)).all (vU f k b)=(ok&&vU f k b x):=by
    rw[List.take_add_one,vg hx2,List.all_append,←hok];simp
   refine zc<|za<|zd<|Z<|C U<|ap U<|Y<|za<|y3 (γ:=Bool) [0,1,5,6,9,10,27,28] (fun u=>[(52,.bool u)]) (fun u=>[]) (fun u=>u=!vU f k b x) ?_ (fun _ _ h=>h) ?_
   ·refine bZ<|C U<|C U<|aT U U<|aw U<|zo (s:=34) U (fun c2=>?_) (fun c2=>?_)
    ·refine M U U c2<|bj U<|M U U c2<|C U<|M U U c2<|X (bD x X1 Yi U U U (m8 hx2))<|M U U c2<|aK Yu U<|M U U c2<|C U<|M U U c2<|X (bD b ju Zc U U U (sO hb))<|M U U c2<|X (q8 (c:=.bool _) Yn U)<|aA U c2 U<|aw U<|zo (s:=43) U (fun c3=>?_) (fun c3=>?_)
     ·refine M U U c3<|bj U<|M U U c3<|C U<|M U U c3<|X (bD x X1 Yi U U U (m8 hx2))<|M U U c3<|aK Yu U<|M U U c3<|C U<|M U U c3<|X (bD k ju Zc U U U (sO hk2))<|M U U c3<|X (q8 (c:=.bool _) Yn U)<|M U U c3<|aL U<|aA U c3 U<|Y ?_;exact ⟨_,(by repeat (first|with_reducible exact yc _ _|refine yk rfl ?_|exact rY)),aN,aJ,by unfold vU;simp_all⟩
     refine H U U c3<|H U U c3<|H U U c3<|H U U c3<|H U U c3<|H U U c3<|H U U c3<|H U U c3<|ay U c3 U<|Y ?_;exact ⟨_,(by repeat (first|with_reducible exact yc _ _|refine yk rfl ?_|exact rY)),aN,aJ,by unfold vU;simp_all⟩
    refine H U U c2<|H U U c2<|H U U c2<|H U U c2<|H U U c2<|H U U c2<|H U U c2<|ay U c2 U<|aw U<|H U U U<|H U U U<|H U U U<|H U U U<|H U U U<|H U U U<|H U U U<|H U U U<|ay U U U<|Y ?_;exact ⟨_,(by repeat (first|with_reducible exact yc _ _|refine yk rfl ?_|exact rY)),aN,aJ,by unfold vU;simp_all⟩
   rintro w hw;refine zq U (fun cw=>?_) (fun cw=>?_)
   ·refine bZ<|ah U<|Y<|bQ U U ?_;exact ⟨(x+1,false),rX,cV,aJ,⟨hx2,by rw[hsx,show vU f k b x=false by rw[hw] at cw;simpa using cw,Bool.and_false]⟩,by dsimp only;omega⟩
   refine zc<|bQ U U ?_;exact ⟨(x+1,ok),rX,cV,aJ,⟨hx2,by rw[hsx,show vU f k b x=true by rw[hw] at cw;simpa using cw,Bool.and_true]⟩,by dsimp only;omega⟩
  obtain rfl:x=f.q.length:=by omega
  rw[List.take_of_length_le (by rw[cA];omega),←his] at hok;refine zt<|Z<|aw U<|Y<|zq U (fun cf=>?_) (fun cf=>?_)
  ·have hf:=JA (p:=fun a=>isNear f a b) hall hk2 (hok▸cf);refine Z<|C U<|ap U<|Y<|zf ?_
   repeat (first|refine ad ?_|refine aa ?_)
   refine gu U ?_;unfold nearD;rw[hf];rfl
  refine zc<|bQ U U ?_;exact ⟨k+1,eX,aN,aJ,⟨hk2,by rw[hsu,←hok,cf];rfl⟩,by omega⟩
 obtain rfl:k=f.q.length:=by omega
 have hf:(ba f.q.length).find? (fun a=>isNear f a b)=none:=by
  rw[List.take_of_length_le (by rw[cA];omega)] at hall;exact List.find?_eq_none.2 fun a ha=>by have:=List.all_eq_true.1 hall a ha;simpa using this
 refine zt<|Z<|ap U<|Y<|zf ?_
 repeat (first|refine ad ?_|refine aa ?_)
 refine gu U ?_;unfold nearD;rw[hf];rfl
theorem B7 (f:ab) (h1:f.v.length≤1000000000) (h2:f.q.length≤1000000000) (h3:eu f.q≤1000000000) (h4:∀b∈f.q,b.p.length≤1000000000∧b.s.length≤1000000000):aS prog E 12 [.agg (bH f)] (.bool (pT f)):=by
 refine zm func12 U (by decide) U<|Z<|zx (cs:=_) U U U<|ah U<|Y<|Z<|ap U<|Y<|za<|Z<|ao jf U Zd U U<|aK Zf U<|am jr U<|C U<|Y<|zd<|zu (γ:=Nat) [1,7,8] (fun k=>[(9,.i k),(3,.i (eu (f.q.take k)))]) (fun k=>[]) (fun k=>k≤f.q.length) (fun k=>f.q.length - k) 0 cV aJ (qw _) ?_;rintro k hk;refine Z<|aq U U<|Y<|za<|zh U (fun ck=>?_) (fun ck=>?_)
 ·have hk2:k<f.q.length:=by simp at ck;omega
  obtain ⟨b,hb⟩:∃b,f.q[k]=b:=⟨_,rfl⟩;have hget:f.q[k]?=some b:=by rw[qt hk2,hb]
  have hbl:=h4 b (hb▸qx hk2);have hs1:=ow f.q k hk2;have hs2:=tC f.q (k+1);rw[hb] at hs1;refine zc<|za<|zd<|Z<|X (bD k jr Z1 U U U hget)<|ae Ye Z1 U U<|zp (cs:=[.e,.n,.n,.i 0,.i 0,.i 0,.i 0]) Zh U U<|fun i5=>zi Z1 U U U U U U .head U<|Y<|bZ<|C U<|X (ze ji U Zv (by decide) U U)<|X (zj (c:=.fro _ _) Yf U ⟨_,.head⟩ U)<|am Z6 U<|X (ky U U)<|X (ze ji U Zw (by decide) U U)<|X (zj (c:=.fro _ _) Y3 U ⟨_,.head⟩ U)<|am Z4 U<|X (ky U U)<|ap U<|Y<|bQ U U ?_;exact ⟨k+1,eX,⟨rfl,(congrArg (AV.int .i64) (by rw[hs1];omega)),trivial⟩,⟨_,(.drop (.refl _)),rfl⟩,hk2,by omega⟩
 obtain rfl:k=f.q.length:=by simp at ck;omega
 rw[qy];clear h4;refine zt<|Z<|ao jf U Zs U U<|aK Y4 U<|am Z7 U<|X (Gv.leq U U)<|aw U<|zo (s:=27) U (fun c1=>?_) (fun c1=>?_)
 ·refine M U U c1<|ao jf U Zd U U<|M U U c1<|aK Zf U<|M U U c1<|am jr U<|M U U c1<|X (Gv.leq U U)<|aA U c1 U<|aw U<|zo (s:=33) U (fun c2=>?_) (fun c2=>?_)
  ·refine M U U c2<|C U<|M U U c2<|X (Gv.leq U U)<|aA U c2 U<|ah U<|Y<|zf ?_
   repeat (first|refine ad ?_|refine aa ?_)
   refine bt U ?_;exact jb (by unfold pT;rw[w4];simp only[wc,wi,decide_eq_false_iff_not,Bool.false_eq_true,false_iff] at *;omega)
  refine H U U c2<|H U U c2<|ay U c2 U<|ah U<|Y<|zf ?_
  repeat (first|refine ad ?_|refine aa ?_)
  refine bt U ?_;exact jb (by unfold pT;rw[w4];simp only[wc,wi,decide_eq_false_iff_not,Bool.false_eq_true,false_iff] at *;omega)
 refine H U U c1<|H U U c1<|H U U c1<|H U U c1<|ay U c1 U<|aw U<|H U U U<|H U U U<|ay U U U<|ah U<|Y<|zf ?_
 repeat (first|refine ad ?_|refine aa ?_)
 refine bt U ?_;exact jb (by unfold pT;rw[w4];simp only[wc,wi,decide_eq_false_iff_not,Bool.false_eq_true,false_iff] at *;omega)
def LC (E:World) (f:ab) (n:Nat):Prop:=∀b:Nat,b<f.q.length→(f.q.length:Int)≤n+gi (cM (aj f) f.q.length) (b:Int) →
  aX prog E 23 [C7 (oK f),.i b] [] (fun y O=>∃g:Nat,y=.j g (iD f n b).length∧O=[(g,.u 1 3 (cI (iD f n b)))]∧True)
theorem DC {f:ab} (hR:bq f) (hn:f.q.length≤1000) (n:Nat) (ih:LC E f n):LC E f (n+1):=by
 intro b hb h;refine aX.exact (γ:=Nat) (x:=fun g=>.j g (iD f (n+1) b).length) (Mq0:=fun g=>[(g,.u 1 3 (cI (iD f (n+1) b)))]) (p:=fun _=>True) ?_;have hkl:=fun k=>Jc hR (n:=n) (b:=(b:Int)) ⟨by omega,by omega⟩ k;have htl:=iM f;have hall:=BP f n (b:Int);unfold LC C7 at ih;unfold C7;refine zm func23 U (by decide) U<|Z<|X (kT U)<|Y<|Z<|C U<|ax.buildSliceO (cps:=[(0,[_])]) (rs:=[_]) ed U U U U U<|fun i8=>X (eO U)<|Y<|za<|Z<|bj U<|am X1 U<|C U<|Y<|zd<|zu (γ:=Nat × Nat) [0,1,10] (fun g=>[(11,.i g.1),(5,.j g.2 (vT f n b g.1).length)]) (fun g=>[(g.2,.u 1 3 (cI (vT f n b g.1)))]) (fun g=>g.1≤f.q.length) (fun g=>f.q.length - g.1) (0,i8) cV aJ (qw _) ?_;rintro ⟨k,io⟩ hk;try dsimp only at *
 refine Z<|aq U U<|Y<|za<|zh U (fun ck=>?_) (fun ck=>?_)
 ·have hk2:k<f.q.length:=by omega
  have hsu:=Gw (n:=n) (b:=(b:Int)) hk2;have hlk:=hkl k;have hlk1:=hkl (k+1);have hkd:vS f b k=(!decide ((k:Int)=b)&&(domF f b k&&decide (nearD f k=b))):=rfl;refine zc<|za<|zd<|Z<|C U<|ap U<|Y<|za<|y3 (γ:=Bool) [0,1,5,6,10,11] (fun u=>[(32,.bool u)]) (fun u=>[(io,.u 1 3 (cI (vT f n b k)))]) (fun u=>u=vS f b k) ?_ (fun _ _ h=>h) ?_
  ·refine bZ<|C U<|C U<|aT U U<|aw U<|zo (s:=17) U (fun c3=>?_) (fun c3=>?_)
   ·refine M U U c3<|bj U<|M U U c3<|C U<|M U U c3<|X (bD b X1 Yi U U U (m8 hb))<|M U U c3<|aK Yu U<|M U U c3<|C U<|M U U c3<|X (bD k ju Zc U U U (sO hk2))<|M U U c3<|X (q8 (c:=.bool _) Yn U)<|aA U c3 U<|aw U<|zo (s:=26) U (fun c4=>?_) (fun c4=>?_)
    ·refine M U U c4<|bj U<|M U U c4<|C U<|M U U c4<|zb (rU f hn k hk2) U<|M U U c4<|C U<|M U U c4<|au U U<|aA U c4 U<|Y ?_;exact ⟨_,(by repeat (first|with_reducible exact yc _ _|refine yk rfl ?_|exact rX)),aN,aJ,by rw[hkd];simp_all⟩
    refine H U U c4<|H U U c4<|H U U c4<|H U U c4<|H U U c4<|ay U c4 U<|Y ?_;exact ⟨_,(by repeat (first|with_reducible exact yc _ _|refine yk rfl ?_|exact rX)),aN,aJ,by rw[hkd];simp_all⟩
   refine H U U c3<|H U U c3<|H U U c3<|H U U c3<|H U U c3<|H U U c3<|H U U c3<|ay U c3 U<|aw U<|H U U U<|H U U U<|H U U U<|H U U U<|H U U U<|ay U U U<|Y ?_;exact ⟨_,(by repeat (first|with_reducible exact yc _ _|refine yk rfl ?_|exact rX)),aN,aJ,by rw[hkd];simp_all⟩
  rintro u hu;refine zq U (fun cu=>?_) (fun cu=>?_)
  ·have hkc:vS f b k=true:=hu▸cu;rw[if_pos hkc] at hsu;have hlv:=Lo hR (b:=(b:Int)) (c:=(k:Int)) ⟨⟨by omega,by omega⟩,hkc⟩;have hol:=uQ hR n (b:=(k:Int)) ⟨by omega,by omega⟩;refine bZ<|bX U<|bj U<|C U<|zy U (zk (.r (.rest _))) (ih k hk2 (by omega)) ?_;rintro r36 O36 ⟨i36,rfl,rfl,_⟩;refine y9 (aR.knowI (t:=36) U .head U)<|yb (k:=1) j7 Y6 U U U U U (fun _=>.head) (by rw[aH];omega) (by decide) (by rw[lN];exact cG _) (by rw[w2];show (_+_)*8≤_;omega) (by rw[w2];omega)<|fun i37=>X (eO U)<|Y<|bQ U U ?_;exact ⟨(k+1,i37),eX,⟨rfl,(congrArg (AV.j i37) (by rw[hsu,qz,w2])),trivial⟩,⟨_,(.refl _),(by rw[hsu,←lO,←lN (iD f n k)]<;>rfl)⟩,hk2,by dsimp only;omega⟩
  have hkc:vS f b k=false:=by rw[←hu];simpa using cu
  rw[if_neg (by rw[hkc];decide),w8] at hsu;refine zc<|bQ U U ?_;exact ⟨(k+1,io),eX,⟨rfl,(congrArg (AV.j io) (by rw[hsu])),trivial⟩,⟨_,(.refl _),(by rw[hsu])⟩,hk2,by dsimp only;omega⟩
 obtain rfl:k=f.q.length:=by omega
 rw[hall];refine zt<|Z<|bX U<|X (eO U)<|Y<|zf<|yz (x:=.j _ _) U ?_;exact ⟨io,rfl,⟨_,.refl _,rfl⟩,trivial⟩
theorem pV {f:ab} (hR:bq f) (hn:f.q.length≤1000):∀n:Nat,LC E f n
 |0=>fun b hb h=>by have:=hR.lev hb;omega
 |n+1=>DC hR hn n (pV hR hn n)
def ku (r:uI):List AV:=[.i r.a,.i r.b,.i r.n]
theorem JB (l:List uI):(l.map ku).flatten.length=l.length*3:=by
 induction l with
 |nil=>rfl
 |cons o r ih=>rw[List.map_cons,List.flatten_cons,qz,ih,List.length_cons];show 3+_=_;omega
theorem JC {f:ab} {v:Int} (h:v<f.v.length∧0≤v):bn f v=true:=by unfold bn;simpa using ⟨h.2,h.1⟩
section
variable {f:ab} {K:KS} {t pr a9 a10:AV} {iw js jl jm jp:Nat} {Mq0:List Int}
variable (hv:f.v.length≤1000)
include hv
end
section
variable {f:ab} {K:KS} {t pr a9 a10:AV} {iw js jl jm jp:Nat} {Mq0:List Int}
variable (hv:f.v.length≤1000)
include hv
end
theorem DD (l:List uI):∀x∈l.map ku,x.length=3:=fun x hx=>by obtain ⟨o,_,rfl⟩:=List.mem_map.1 hx;rfl
theorem JD {f:ab} {i:Int} (h:¬(bm (aj f) f.q.length i).length=1):jT f i=[]:=by
 unfold jT;split
 ·rename_i p e;rw[e] at h;exact absurd rfl h
 rfl
end
section
open Go.Proofs.Tryz
open Go.Proofs Go.Lib Go.Shelf Go.RowKit
theorem GD:eS prog 80 #[(0,1),(1,1),(2,1)] [.int .i64 0,.int .i64 0,.int .i64 0]:=⟨_,_,Yv,zeroValue80,fun w=>by kernel_rfl,rfl⟩
theorem Nx:dp prog 77 80 1 3 [.int .i64 0,.int .i64 0,.int .i64 0]:=⟨_,underlying77,Xd,zeroValue80,by decide,by decide,by kernel_rfl⟩
variable {E:World}
set_option maxRecDepth 20000
def mh (k:Gz):Int:=2*k.1+if k.2=true then 1 else 0
theorem JE {a b:Gz} (h:mh a=mh b):a=b:=by
 obtain ⟨a1,a2⟩:=a;obtain ⟨b1,b2⟩:=b;unfold mh at h;cases a2<;>cases b2<;>simp at h
 ·rw[show a1=b1 by omega]
 ·omega
 ·omega
 rw[show a1=b1 by omega]
def JF (iq js jo:Nat) (q:iS):OL:=[(iq,.cells 162 [.j js q.seen.length,.j jo q.out.length]),(js,.u 1 3 (cI (q.seen.map mh))),(jo,.u 3 80 (q.out.map ku).flatten)]
def Ny (E:World) (f:ab) (iq:Nat) (n:Nat):Prop:=∀(q:iS) (js jo:Nat) (c:Int) (is:Bool),bn f c=true→EM f c<n→np f q →
 aX prog E 89 [.po iq 0,.agg (bH f),.i c,.bool is] (JF iq js jo q) (fun y O=>∃g:Nat × Nat,y=.tup []∧O=JF iq g.1 g.2 (gY f n q c is)∧True)
theorem np.slen {f:ab} {q:iS} (h:np f q):q.seen.length≤2*f.v.length:=by
 have:=(np.mk (f:=f) (q:=⟨q.seen,List.replicate q.seen.length ⟨0,0,0⟩⟩) h.nod h.rng (by simp)).len
 simpa using this
def ON (q:iS) (r:uI):iS:=if 0≤r.n then fW q r.a r.b r.n else q
set_option maxHeartbeats 16000000 in
theorem GE (f:ab) (hf:small f) (hR:bq f) (hv:f.v.length≤1000) (iq n:Nat) (ih:Ny E f iq n):Ny E f iq (n+1):=by
 intro q js jo c is hc hrk hA;have hsl:=hA.slen;have hol:=hA.len;have hcr:0≤c∧c<f.v.length:=by simpa [bn] using hc
 obtain ⟨c0,hc0⟩:=Int.eq_ofNat_of_zero_le hcr.1;refine aX.exact (γ:=Nat × Nat) (x:=fun _=>.tup []) (Mq0:=fun g=>JF iq g.1 g.2 (gY f (n+1) q c is)) (p:=fun _=>True) ?_;have hM:=fun h=>rS (E:=E) f hf c0 h;have hM2:=fun y h=>rT (E:=E) f hf c0 (x:=y) h;rw[←hc0] at hM hM2;have ih:=fun q js jo c is h1 h2 h3=>ih q js jo c is h1 h2 h3;have hki:∀s:Gz,mh s=mh (c,is)→s=(c,is):=fun s h=>JE h;unfold JF at ih ⊢;refine zm func89 U (by decide) U<|Z<|zx (cs:=_) U U U<|Y<|Z<|C U<|X (Gv.mul U U (by unfold mB;omega))<|ap U<|Y<|za<|Z<|aw U<|Y<|y3 (γ:=Int) [0,2,3,5] (fun key=>[(8,.i key)]) (fun key=>[(iq,.cells 162 [.j js q.seen.length,.j jo q.out.length]),(js,.u 1 3 (cI (q.seen.map mh))),(jo,.u 3 80 (q.out.map ku).flatten)]) (fun key=>key=mh (c,is)) ?_ (fun _ _ h=>h) ?_
 ·refine zq U (fun ci=>?_) (fun ci=>?_)
  ·have ci:is=true:=ci;refine bZ<|C U<|X (ky U U)<|ap U<|Y ?_;exact ⟨_,(by repeat (first|with_reducible exact yc _ _|refine yk rfl ?_|exact f7)),aN,aJ,by unfold mh;rw[ci];simp⟩
  have ci:is=false:=ci;refine zc ?_;exact ⟨_,(by repeat (first|with_reducible exact yc _ _|refine yk rfl ?_|exact f7)),aN,aJ,by unfold mh;rw[ci];simp⟩
 rintro key hkey;refine za<|Z<|bf U<|aC U<|X (ze X8 U jh (by decide) U U)<|X (zj (c:=.j _ _) jy U ⟨_,.head⟩ U)<|X (qm j7 U)<|C U<|Y<|zd<|zu (γ:=Nat) [0,2,3,5,8,21,22] (fun k=>[(23,.i k)]) (fun k=>[(iq,.cells 162 [.j js q.seen.length,.j jo q.out.length]),(js,.u 1 3 (cI (q.seen.map mh))),(jo,.u 3 80 (q.out.map ku).flatten)]) (fun k=>k≤q.seen.length∧(q.seen.take k).any (fun s=>decide (mh s=key))=false) (fun k=>q.seen.length - k) 0 aN aJ (⟨qw _,U⟩) ?_;rintro k ⟨hk,hall⟩;refine Z<|aq U U<|Y<|za<|zh U (fun ck=>?_) (fun ck=>?_)
 ·have hk2:k<q.seen.length:=by omega
  obtain ⟨s,hs⟩:∃s,q.seen[k]=s:=⟨_,rfl⟩;have hsg:q.seen[k]?=some s:=by rw[qt hk2,hs]
  have hsu:(q.seen.take (k+1)).any (fun s=>decide (mh s=key))=decide (mh s=key):=by
   rw[List.take_add_one,hsg,List.any_append,hall];simp
  refine zc<|za<|zd<|Z<|X (y7 (j:=k) j7 j9 U U U ⟨_,.t1⟩ (by rw[aH,w2]) hk2)<|X (yp (j:=k) jg U ⟨_,.t1⟩ (show (q.seen.map mh)[k]?=some (mh s) by rw[w3,hsg];rfl))<|ap U<|Y<|Z<|C U<|C U<|au U U<|Y<|zh U (fun cc=>?_) (fun cc=>?_)
  ·have hmem:q.seen.contains (c,is)=true:=by
    rw[List.contains_iff_mem,←hki s (cc.trans hkey)];exact w5 hsg
   have hQ:gY f (n+1) q c is=q:=by unfold gY;rw[if_pos hmem]
   refine zf<|yu ?_;exact ⟨(js,jo),rfl,⟨_,.refl _,by rw[hQ]⟩,trivial⟩
  refine zc<|bQ U U ?_;exact ⟨k+1,lI,aN,aJ,⟨hk2,by rw[hsu];exact wb cc⟩,by omega⟩
 obtain rfl:k=q.seen.length:=by omega
 have hnm:q.seen.contains (c,is)=false:=by
  cases e:q.seen.contains (c,is) with
  |false=>rfl
  |true=>
   rw[qy] at hall;have:=List.any_eq_false.1 hall _ (List.contains_iff_mem.1 e);simp[hkey] at this
 have hQ:gY f (n+1) q c is=match eN f c with
   |none=>⟨q.seen++[(c,is)],q.out⟩
   |some x=>
    if x.op=10 then gY f n ⟨q.seen++[(c,is)],q.out⟩ (dH x) (!is)
    else if x.op=1 then gY f n ⟨q.seen++[(c,is)],q.out⟩ (dH x) is
    else if x.op=11 then (if is=true then gY f n (gY f n ⟨q.seen++[(c,is)],q.out⟩ (dH x) true) (fw x) true else ⟨q.seen++[(c,is)],q.out⟩)
    else if x.op=8 then (if is=true then fW ⟨q.seen++[(c,is)],q.out⟩ (dH x) (fw x) 0 else fW ⟨q.seen++[(c,is)],q.out⟩ (fw x) (dH x) 1)
    else if x.op=9 then (if is=true then fW ⟨q.seen++[(c,is)],q.out⟩ (dH x) (fw x) 1 else fW ⟨q.seen++[(c,is)],q.out⟩ (fw x) (dH x) 0)
    else if x.op=7 then (if is=true then fW ⟨q.seen++[(c,is)],q.out⟩ (dH x) (fw x) 2 else ⟨q.seen++[(c,is)],q.out⟩)
    else ⟨q.seen++[(c,is)],q.out⟩:=by
  conv=>lhs;unfold gY
  rw[if_neg (by rw[hnm];decide)]
  rfl
 have hQG:=oc hR (n+1) q c is hA hc;obtain ⟨Zq0,hZ⟩:∃Zq0,gY f (n+1) q c is=Zq0:=⟨_,rfl⟩;rw[hZ] at hQ hQG ⊢;obtain ⟨hA1,hA2⟩:=hA.push hnm hc;obtain ⟨q1,hq1⟩:∃q1:iS,(⟨q.seen++[(c,is)],q.out⟩:iS)=q1:=⟨_,rfl⟩;rw[hq1] at hQ hA1;rw[hq1] at hA2;have hqs:q1.seen=q.seen++[(c,is)]:=by rw[←hq1]
 have hqo:q1.out=q.out:=by rw[←hq1]
 refine zt<|Z<|bf U<|bf U<|aC U<|X (ze X8 U jh (by decide) U U)<|X (zj (c:=.j _ _) jy U ⟨_,.head⟩ U)<|C U<|zw (rows:=[[_]]) ed U U U U U<|yb (k:=1) j7 Y6 U U U U U (fun _=>.t1) (by rw[aH,w2];omega) (by decide) U (by show (_+_)*8≤_;simp<;>omega) (by simp<;>omega)<|fun i38=>aC U<|X (ze X8 U jh (by decide) U U)<|yh (l:=[_]) (new:=[_,_]) jh U U U U U U .head U U<|Y<|gd .t2<|gd .t2<|gd .t2<|yd (aR.eq (show _=([(iq,.cells 162 [.j i38 q1.seen.length,.j jo q1.out.length]),(i38,.u 1 3 (cI (q1.seen.map mh))),(jo,.u 3 80 (q1.out.map ku).flatten)]:OL) from (by rw[hqs,hqo,hkey,qz,w7,←lO];rfl))) ?_;rcases hm:eN f c with _|x
 ·rw[hm] at hQ;dsimp only at hQ;refine Z<|ae Z2 jk U U<|C U<|zb (hM hm) U<|zp (cs:=[.i 0,.i 0,.n,.i 0]) Zo U U<|fun i11=>zi Z9 U U U U U U .head U<|y9 (zz (t:=11) U .head)<|Y<|za<|Z<|ao jd U j9 U U<|aD jg U<|aq U U<|Y<|ym U U<|zf<|yu ?_;exact ⟨(i38,jo),rfl,⟨_,.refl _,by rw[hQ]⟩,trivial⟩
 rw[hm] at hQ;dsimp only at hQ;obtain ⟨hF,_,_⟩:=hR.madeF hm;have hdst:=BX hm;have a0:∀{k:Int},x.op=k→0<([0,1,2,2,2,2,2,2,2,2,1,2,1,2,3,1,0,1,2,1,1,2,2,2,1,2,2][k.toNat]?).getD 0→(bn f (dH x)=true∧EM f (dH x)<n)∧0<x.args.length:=fun e h=>by
  have hl:0<x.args.length:=by rw[hF.cnt e];exact h
  have:=hR.rk0 hm hl;exact ⟨⟨JC (hF.a0 hl),by omega⟩,hl⟩
 have a1:∀{k:Int},x.op=k→1<([0,1,2,2,2,2,2,2,2,2,1,2,1,2,3,1,0,1,2,1,1,2,2,2,1,2,2][k.toNat]?).getD 0→(bn f (fw x)=true∧EM f (fw x)<n)∧1<x.args.length:=fun e h=>by
  have hl:1<x.args.length:=by rw[hF.cnt e];exact h
  have:=hR.rk1 hm hl;exact ⟨⟨JC (hF.a1 hl),by omega⟩,hl⟩
 refine Z<|ae Z2 jk U U<|C U<|zb (hM2 x hm) U<|zp (cs:=[.int .i64 0,.int .i64 0,.n,.int .i64 0]) Zo U U<|fun i11=>zi Z9 U U U U U U .head U<|y9 (zz (t:=11) U .head)<|Y<|za<|Z<|ao jd U j9 U U<|aD jg U<|aq U U<|Y<|yl U (wb (by rw[hdst];omega))<|zc<|Z<|X (y5 (cps:=[(2,[_])]) (rs:=[.int .i64 0,.int .i64 0,_]) GD U U U)<|zp (cs:=[.int .i64 0,.int .i64 0,.int .i64 0]) zeroValue80 U U<|fun i12=>zi Xd U U U U U U .head U<|Y<|za<|Z<|ao jd U Zu U U<|aD Y2 U<|Y<|gd .t3<|gd .t3<|gd .t3<|y3 (γ:=(iS × Nat × Nat) × uI) [0,12] (fun g=>[]) (fun g=>[(iq,.cells 162 [.j g.1.2.1 g.1.1.seen.length,.j g.1.2.2 g.1.1.out.length]),(g.1.2.1,.u 1 3 (cI (g.1.1.seen.map mh))),(g.1.2.2,.u 3 80 (g.1.1.out.map ku).flatten),(i12,.cells 80 [.int .i64 g.2.a,.int .i64 g.2.b,.int .i64 g.2.n])]) (fun g=>np f g.1.1∧Zq0=ON g.1.1 g.2) ?_ (fun _ _ h=>h) ?_
 ·refine zd<|Z<|au U U<|ah U<|Y<|zh U (fun c10=>?_) (fun c10=>?_)
  ·have c10:x.op=10:=c10;obtain ⟨⟨h1,h2⟩,h3⟩:=a0 c10 (by decide);rw[if_pos c10] at hQ;refine zn (fun j=>false) (by kernel_rfl) U (zk (.rest _))<|D 0 U (dZ U)<|D 1 U (yj Z2 jk U U)<|D 2 U (dk jd U jh U U)<|D 3 U (gJ jy U)<|D 4 U (bD 0 j7 j9 U U U (kR h3))<|D 5 U (d9 jg U)<|D 6 U (Cl U)<|D 7 U (Gv.not U)<|bp 8 U<|zy U (zk (.l (.l (.l (.r (.rest _)))))) (ih q1 i38 jo (dH x) (!is) h1 h2 hA1) ?_;rintro r60 O60 ⟨⟨j1,j2⟩,rfl,rfl,_⟩;refine Y<|dS ?_;exact ⟨((gY f n q1 (dH x) (!is),j1,j2),⟨0,0,-1⟩),(by repeat (first|with_reducible exact yc _ _|refine yk rfl ?_|exact cV)),trivial,aJ,⟨oc hR n _ _ _ hA1 h1,hQ⟩⟩
  have c10:¬x.op=10:=c10;rw[if_neg c10] at hQ;refine Z<|au U U<|ah U<|Y<|zh U (fun c1=>?_) (fun c1=>?_)
  ·have c1:x.op=1:=c1;obtain ⟨⟨h1,h2⟩,h3⟩:=a0 c1 (by decide);rw[if_pos c1] at hQ;refine zn (fun j=>false) (by kernel_rfl) U (zk (.rest _))<|D 0 U (dZ U)<|D 1 U (yj Z2 jk U U)<|D 2 U (dk jd U jh U U)<|D 3 U (gJ jy U)<|D 4 U (bD 0 j7 j9 U U U (kR h3))<|D 5 U (d9 jg U)<|D 6 U (Cl U)<|bp 7 U<|zy U (zk (.l (.l (.l (.r (.rest _)))))) (ih q1 i38 jo (dH x) is h1 h2 hA1) ?_;rintro r70 O70 ⟨⟨j1,j2⟩,rfl,rfl,_⟩;refine Y<|dS ?_;exact ⟨((gY f n q1 (dH x) is,j1,j2),⟨0,0,-1⟩),(by repeat (first|with_reducible exact yc _ _|refine yk rfl ?_|exact cV)),trivial,aJ,⟨oc hR n _ _ _ hA1 h1,hQ⟩⟩
  have c1:¬x.op=1:=c1;rw[if_neg c1] at hQ;refine Z<|au U U<|ah U<|Y<|zh U (fun c11=>?_) (fun c11=>?_)
  ·have c11:x.op=11:=c11;obtain ⟨⟨h1,h2⟩,h3⟩:=a0 c11 (by decide);obtain ⟨⟨g1,g2⟩,g3⟩:=a1 c11 (by decide);rw[if_pos c11] at hQ;refine Z<|aw U<|Y<|zq U (fun ci=>?_) (fun ci=>?_)
   ·have ci:is=true:=ci;rw[if_pos ci] at hQ;subst ci;have hB1:=oc hR n _ _ true hA1 h1;refine za<|zn (fun j=>false) (by kernel_rfl) U (zk (.rest _))<|D 0 U (dZ U)<|D 1 U (yj Z2 jk U U)<|D 2 U (dk jd U jh U U)<|D 3 U (gJ jy U)<|D 4 U (bD 0 j7 j9 U U U (kR h3))<|D 5 U (d9 jg U)<|D 6 U (Cl U)<|bp 7 U<|zy U (zk (.l (.l (.l (.r (.rest _)))))) (ih q1 i38 jo (dH x) true h1 h2 hA1) ?_;rintro r81 O81 ⟨⟨j1,j2⟩,rfl,rfl,_⟩;refine Y<|dS<|zn (fun j=>false) (by kernel_rfl) U (zk (.rest _))<|D 0 U (dZ U)<|D 1 U (yj Z2 jk U U)<|D 2 U (dk jd U jh U U)<|D 3 U (gJ jy U)<|D 4 U (bD 1 j7 j9 U U U (nN g3))<|D 5 U (d9 jg U)<|D 6 U (Cl U)<|bp 7 U<|zy U (zk (.l (.l (.l (.r (.rest _)))))) (ih _ j1 j2 (fw x) true g1 g2 hB1) ?_;rintro r89 O89 ⟨⟨j3,j4⟩,rfl,rfl,_⟩;refine Y<|dS ?_
    exact ⟨((_,j3,j4),⟨0,0,-1⟩),(by repeat (first|with_reducible exact yc _ _|refine yk rfl ?_|exact cV)),trivial,aJ,⟨oc hR n _ _ _ hB1 g1,hQ⟩⟩
   have ci:¬is=true:=by rw[show is=false from ci];decide
   rw[if_neg ci] at hQ;refine zc ?_;exact ⟨((q1,i38,jo),⟨0,0,-1⟩),(by repeat (first|with_reducible exact yc _ _|refine yk rfl ?_|exact cV)),trivial,aJ,⟨hA1,hQ⟩⟩
  have c11:¬x.op=11:=c11;rw[if_neg c11] at hQ;refine Z<|au U U<|ah U<|Y<|zh U (fun c8=>?_) (fun c8=>?_)
  ·have c8:x.op=8:=c8;obtain ⟨_,h3⟩:=a0 c8 (by decide);obtain ⟨_,g3⟩:=a1 c8 (by decide);rw[if_pos c8] at hQ;refine za<|zn (fun j=>Nat.beq j 9) (by kernel_rfl) U (zk (.rest _))<|D 0 U (dk jd U jh U U)<|D 1 U (gJ jy U)<|D 2 U (bD 0 j7 j9 U U U (kR h3))<|D 3 U (d9 jg U)<|D 4 U (dk jd U jh U U)<|D 5 U (gJ jy U)<|D 6 U (bD 1 j7 j9 U U U (nN g3))<|D 7 U (d9 jg U)<|D 8 U (y5 (cps:=[(0,[_]),(1,[_]),(2,[_])]) (rs:=[_,_,_]) GD U U U)<|y4<|yg (i:=9) U (by kernel_rfl) (by kernel_rfl)<|zi Xd U U U U U U .t3 U<|Y<|y8 (by kernel_rfl)<|Z<|aw U<|aL U<|Y<|zq U (fun ci=>?_) (fun ci=>?_)
   ·have ci:is=false:=by simpa using ci
    rw[if_neg (show ¬is=true by rw[ci];decide)] at hQ;refine zn (fun j=>Nat.beq j 9) (by kernel_rfl) U (zk (.rest _))<|D 0 U (dk jd U jh U U)<|D 1 U (gJ jy U)<|D 2 U (bD 1 j7 j9 U U U (nN g3))<|D 3 U (d9 jg U)<|D 4 U (dk jd U jh U U)<|D 5 U (gJ jy U)<|D 6 U (bD 0 j7 j9 U U U (kR h3))<|D 7 U (d9 jg U)<|D 8 U (y5 (cps:=[(0,[_]),(1,[_]),(2,[_])]) (rs:=[_,_,_]) GD U U U)<|y4<|yg (i:=9) U (by kernel_rfl) (by kernel_rfl)<|zi Xd U U U U U U .t3 U<|Y<|y8 (by kernel_rfl) ?_;exact ⟨((q1,i38,jo),⟨fw x,dH x,1⟩),(by repeat (first|with_reducible exact yc _ _|refine yk rfl ?_|exact cV)),trivial,aJ,⟨hA1,hQ⟩⟩
   have ci:is=true:=by simpa using ci
   rw[if_pos ci] at hQ;refine zc ?_;exact ⟨((q1,i38,jo),⟨dH x,fw x,0⟩),(by repeat (first|with_reducible exact yc _ _|refine yk rfl ?_|exact cV)),trivial,aJ,⟨hA1,hQ⟩⟩
  have c8:¬x.op=8:=c8;rw[if_neg c8] at hQ;refine Z<|au U U<|ah U<|Y<|zh U (fun c9=>?_) (fun c9=>?_)
  ·have c9:x.op=9:=c9;obtain ⟨_,h3⟩:=a0 c9 (by decide);obtain ⟨_,g3⟩:=a1 c9 (by decide);rw[if_pos c9] at hQ;refine za<|zn (fun j=>Nat.beq j 9) (by kernel_rfl) U (zk (.rest _))<|D 0 U (dk jd U jh U U)<|D 1 U (gJ jy U)<|D 2 U (bD 0 j7 j9 U U U (kR h3))<|D 3 U (d9 jg U)<|D 4 U (dk jd U jh U U)<|D 5 U (gJ jy U)<|D 6 U (bD 1 j7 j9 U U U (nN g3))<|D 7 U (d9 jg U)<|D 8 U (y5 (cps:=[(0,[_]),(1,[_]),(2,[_])]) (rs:=[_,_,_]) GD U U U)<|y4<|yg (i:=9) U (by kernel_rfl) (by kernel_rfl)<|zi Xd U U U U U U .t3 U<|Y<|y8 (by kernel_rfl)<|Z<|aw U<|aL U<|Y<|zq U (fun ci=>?_) (fun ci=>?_)
   ·have ci:is=false:=by simpa using ci
    rw[if_neg (show ¬is=true by rw[ci];decide)] at hQ;refine zn (fun j=>Nat.beq j 9) (by kernel_rfl) U (zk (.rest _))<|D 0 U (dk jd U jh U U)<|D 1 U (gJ jy U)<|D 2 U (bD 1 j7 j9 U U U (nN g3))<|D 3 U (d9 jg U)<|D 4 U (dk jd U jh U U)<|D 5 U (gJ jy U)<|D 6 U (bD 0 j7 j9 U U U (kR h3))<|D 7 U (d9 jg U)<|D 8 U (y5 (cps:=[(0,[_]),(1,[_]),(2,[_])]) (rs:=[_,_,_]) GD U U U)<|y4<|yg (i:=9) U (by kernel_rfl) (by kernel_rfl)<|zi Xd U U U U U U .t3 U<|Y<|y8 (by kernel_rfl) ?_;exact ⟨((q1,i38,jo),⟨fw x,dH x,0⟩),(by repeat (first|with_reducible exact yc _ _|refine yk rfl ?_|exact cV)),trivial,aJ,⟨hA1,hQ⟩⟩
   have ci:is=true:=by simpa using ci
   rw[if_pos ci] at hQ;refine zc ?_;exact ⟨((q1,i38,jo),⟨dH x,fw x,1⟩),(by repeat (first|with_reducible exact yc _ _|refine yk rfl ?_|exact cV)),trivial,aJ,⟨hA1,hQ⟩⟩
  have c9:¬x.op=9:=c9;rw[if_neg c9] at hQ;refine Z<|au U U<|ah U<|Y<|zh U (fun c7=>?_) (fun c7=>?_)
  ·have c7:x.op=7:=c7;obtain ⟨_,h3⟩:=a0 c7 (by decide);obtain ⟨_,g3⟩:=a1 c7 (by decide);rw[if_pos c7] at hQ;refine Z<|aw U<|Y<|zq U (fun ci=>?_) (fun ci=>?_)
   ·have ci:is=true:=ci;rw[if_pos ci] at hQ;refine zn (fun j=>Nat.beq j 9) (by kernel_rfl) U (zk (.rest _))<|D 0 U (dk jd U jh U U)<|D 1 U (gJ jy U)<|D 2 U (bD 0 j7 j9 U U U (kR h3))<|D 3 U (d9 jg U)<|D 4 U (dk jd U jh U U)<|D 5 U (gJ jy U)<|D 6 U (bD 1 j7 j9 U U U (nN g3))<|D 7 U (d9 jg U)<|D 8 U (y5 (cps:=[(0,[_]),(1,[_]),(2,[_])]) (rs:=[_,_,_]) GD U U U)<|y4<|yg (i:=9) U (by kernel_rfl) (by kernel_rfl)<|zi Xd U U U U U U .t3 U<|Y<|y8 (by kernel_rfl) ?_;exact ⟨((q1,i38,jo),⟨dH x,fw x,2⟩),(by repeat (first|with_reducible exact yc _ _|refine yk rfl ?_|exact cV)),trivial,aJ,⟨hA1,hQ⟩⟩
   have ci:¬is=true:=by rw[show is=false from ci];decide
   rw[if_neg ci] at hQ;refine zc ?_;exact ⟨((q1,i38,jo),⟨0,0,-1⟩),(by repeat (first|with_reducible exact yc _ _|refine yk rfl ?_|exact cV)),trivial,aJ,⟨hA1,hQ⟩⟩
  have c7:¬x.op=7:=c7;rw[if_neg c7] at hQ;refine zc ?_;exact ⟨((q1,i38,jo),⟨0,0,-1⟩),(by repeat (first|with_reducible exact yc _ _|refine yk rfl ?_|exact cV)),trivial,aJ,⟨hA1,hQ⟩⟩
 rintro ⟨⟨q2,js2,jo2⟩,⟨ra,rb,rn⟩⟩ ⟨hG2,hZ2⟩;dsimp only at hG2 hZ2 ⊢;have hol2:=hG2.len;have hrf:=JB q2.out;unfold ON at hZ2;dsimp only at hZ2;refine za<|y3 (γ:=Bool) [0,12] (fun u=>[(155,.bool u)]) (fun u=>[(iq,.cells 162 [.j js2 q2.seen.length,.j jo2 q2.out.length]),(js2,.u 1 3 (cI (q2.seen.map mh))),(jo2,.u 3 80 (q2.out.map ku).flatten),(i12,.cells 80 [.i ra,.i rb,.i rn])]) (fun u=>u=decide (0≤rn∧¬ra=rb)) ?_ (fun _ _ h=>h) ?_
 ·clear hQ hZ2 ih hM hM2 hG2 hQG hA1 hA2 a0 a1 hki hall hR hA hf hF;refine bZ<|X (ze Yv U Z0 (by decide) U U)<|X (zj (c:=.int _ _) Zb U ⟨_,.t3⟩ U)<|X (q7 U U)<|aw U<|zo (s:=149) U (fun c1=>?_) (fun c1=>?_)
  ·refine M U U c1<|X (ze Yv U j9 (by decide) U U)<|M U U c1<|X (zj (c:=.int _ _) jg U ⟨_,.t3⟩ U)<|M U U c1<|X (ze Yv U j9 (by decide) U U)<|M U U c1<|X (zj (c:=.int _ _) jg U ⟨_,.t3⟩ U)<|M U U c1<|aT U U<|aA U c1 U<|Y ?_;exact ⟨_,(by repeat (first|with_reducible exact yc _ _|refine yk rfl ?_|exact cV)),aN,aJ,by simp_all<;>omega⟩
  refine H U U c1<|H U U c1<|H U U c1<|H U U c1<|H U U c1<|ay U c1 U<|Y ?_;exact ⟨_,(by repeat (first|with_reducible exact yc _ _|refine yk rfl ?_|exact cV)),aN,aJ,by simp_all<;>omega⟩
 rintro u hu;refine zq U (fun cu=>?_) (fun cu=>?_)
 ·have cu:=wg (hu▸cu);rw[if_pos cu.1] at hZ2;unfold fW at hZ2;rw[if_neg cu.2] at hZ2;refine zn (fun j=>Nat.beq j 10) (by kernel_rfl) U (zk (.r (.l (.l (.r (.rest _))))))<|D 0 U (dZ U)<|D 1 U (dZ U)<|D 2 U (zr U)<|D 3 U (ze X8 U sizeOf77 (by decide) U U)<|D 4 U (zj (c:=.j _ _) isAgg77 U ⟨_,.head⟩ U)<|D 5 U (qb isAgg80 Xd U ⟨_,.t1⟩ U)<|bp 6 U<|zw (rows:=[[_,_,_]]) Nx U U U U U<|Y<|bp 7 U<|yb (k:=3) underlying77 type80 U U U U U (fun _=>.t1) hrf (by decide) U (by show (_+_)*24≤_;simp<;>omega) (by simp<;>omega)<|fun i163=>Y<|yo (i:=8) U (by kernel_rfl) (by kernel_rfl) (by kernel_rfl) (by kernel_rfl) (zr U)<|D 9 U (ze X8 U sizeOf77 (by decide) U U)<|y4<|yg (i:=10) U (by kernel_rfl) (by kernel_rfl)<|yh (l:=[_]) (new:=[_,_]) sizeOf77 U U U U U U .head U U<|Y<|y8 (by kernel_rfl)<|yv (yr (yx .t3))<|yv (yr (yx .t3))<|yv (yr (yx .t2))<|yu ?_
  exact ⟨(js2,i163),rfl,⟨_,.keep (.keep (.keep (.drop (.refl _)))),by rw[hZ2,w7,List.flatten_append,qz];rfl⟩,trivial⟩
 have cu:=wh (hu▸cu);have hZ3:Zq0=q2:=by
  rw[hZ2]
  by_cases h:0≤rn
  ·rw[if_pos h];unfold fW;rw[if_pos (Classical.byContradiction fun e=>cu ⟨h,e⟩)]
  rw[if_neg h]
 refine zc<|yu ?_;exact ⟨(js2,jo2),rfl,⟨_,.keep (.keep (.keep (.drop (.refl _)))),by rw[hZ3]⟩,trivial⟩
end
section
open Go.Proofs.Tryz
open Go.Proofs Go.Lib Go.Shelf Go.RowKit
theorem OO:eS prog 162 #[(0,1),(1,1)] [.n,.n]:=⟨_,_,X8,zeroValue162,fun w=>by kernel_rfl,rfl⟩
variable {E:World}
set_option maxRecDepth 20000
theorem B8 (f:ab) (hf:small f) (hR:bq f) (hv:f.v.length≤1000) (iq:Nat):∀n,Ny E f iq n
 |0=>fun _ _ _ _ _ _ h=>by omega
 |n+1=>GE f hf hR hv iq n (B8 f hf hR hv iq n)
theorem np.emp (f:ab):np f ⟨[],[]⟩:=⟨List.nodup_nil,fun k hk=>(by cases hk),Nat.le_refl _⟩
theorem yP (f:ab) (hf:small f) (hR:bq f) (hv:f.v.length≤1000) (c:Int) (is:Bool) (hc:bn f c=true) :
  aS prog E 49 [.agg (bH f),.i c,.bool is] (.fro 3 ((rh f c is).map ku)):=by
 have hA:=fun iq js jo=>B8 (E:=E) f hf hR hv iq 100000 ⟨[],[]⟩ js jo c is hc (hR.rk_low c) (np.emp f);unfold JF at hA;refine zm func49 U (by decide) U<|Z<|zx (cs:=_) U U U<|X (kT U)<|Y<|Z<|X (y5 (cps:=[]) (rs:=[.n,.n]) OO U U U)<|qi (cs:=_) U U U U<|fun i9=>X (xw U)<|Y<|fY (off:=0) (k:=1) (T:=3) (fun _=>.head) U<|fun js=>fY (off:=1) (k:=3) (T:=80) (fun _=>.t1) U<|fun jo=>gd .head<|gd .t1<|gd .t2<|gd .t2<|gd .t2<|gd .t2<|Z<|bf U<|ae Z2 jk U U<|C U<|aw U<|zy U (zk (.l (.l (.l (.rest _))))) (hA i9 js jo) ?_;rintro r14 O14 ⟨⟨j1,j2⟩,rfl,rfl,_⟩;refine Y<|yd (aR.knowC (off:=1) (rows:=(rh f c is).map ku) .t2 .head U (by exact DD _) (by decide) (by rw[w2];rfl))<|Z<|bf U<|aC U<|X (ze X8 U sizeOf77 (by decide) U U)<|X (zj (c:=.fro _ _) isAgg77 U ⟨_,.head⟩ U)<|X (oU U)<|Y<|zf<|yz (x:=.fro _ _) U ?_
 rfl
theorem B9 {b:Int}:∀{l:List Int},l.Nodup→(l.filter fun c=>decide (c=b))=if b∈l then[b] else[]
 |[],_=>rfl
 |x::l,h=>by
  rw[List.nodup_cons] at h;rw[List.filter_cons,B9 h.2]
  by_cases e:x=b
  ·subst e;rw[if_pos (by simp),if_neg h.1,if_pos (.head _)]
  rw[if_neg (by simpa using e)]
  by_cases hm:b∈l
  ·rw[if_pos hm,if_pos (.tail _ hm)]
  rw[if_neg hm,if_neg (fun k=>by rcases List.mem_cons.1 k with k|k;exact e k.symm;exact hm k)]
def vV (f:ab) (b:Int) (k:Nat):List Int:=((ba f.q.length).take k).flatMap fun i=>((aj f i).filter fun c=>decide (c=b)).map fun _=>i
theorem GF {f:ab} {b:Int} {k:Nat} (hk:k<f.q.length):vV f b (k+1)=vV f b k++if b∈aj f k then[(k:Int)] else[]:=by
 have hg:(ba f.q.length)[k]?=some (k:Int):=by unfold ba;rw[w3,List.getElem?_range hk];rfl
 unfold vV;rw[List.take_add_one,hg,List.flatMap_append];show _++List.flatMap _ [(k:Int)]=_;rw[List.flatMap_cons,List.flatMap_nil,w8,B9 (jF f _)];split<;>rfl
theorem JG (f:ab) (b:Int) (k:Nat):∃r,bm (aj f) f.q.length b=vV f b k++r:=by
 refine ⟨((ba f.q.length).drop k).flatMap fun i=>((aj f i).filter fun c=>decide (c=b)).map fun _=>i,?_⟩;unfold vV;rw[←List.flatMap_append,List.take_append_drop];rfl
theorem JH (f:ab) (b:Int):vV f b f.q.length=bm (aj f) f.q.length b:=by
 unfold vV;rw[List.take_of_length_le (by rw[cA];omega)];rfl
def Nz (f:ab) (b:Int) (k:Nat) (fr:Int):Prop:=(fr=-1∧vV f b k=[])∨((0≤fr∧fr<f.q.length)∧vV f b k=[fr])
set_option maxHeartbeats 4000000 in
theorem GG {f:ab} (hf:small f) (hR:bq f) (i:Nat):aS prog E 25 [.agg (bH f),.i i] (.fro 3 ((jT f i).map ku)):=by
 have hn:f.q.length≤1000:=hf.2.2.1;have hv:=hf.1;refine zm func25 U (by decide) U<|Z<|zx (cs:=_) U U U<|X (kT U)<|Y<|Z<|ap U<|Y<|za<|Z<|ao jf U Zd U U<|aK Zf U<|am jr U<|C U<|Y<|zd<|zu (γ:=Nat × Int) [1,2,10] (fun g=>[(11,.i g.1),(5,.i g.2)]) (fun g=>[]) (fun g=>g.1≤f.q.length∧Nz f i g.1 g.2) (fun g=>f.q.length - g.1) (0,-1) cV aJ (⟨qw _,.inl ⟨U,U⟩⟩) ?_;rintro ⟨k,fr⟩ ⟨hk,hS⟩;try dsimp only at *
 refine Z<|aq U U<|Y<|za<|zh U (fun ck=>?_) (fun ck=>?_)
 ·have hk2:k<f.q.length:=by omega
  have hsu:=GF (f:=f) (b:=i) hk2;refine zc<|za<|zd<|Z<|C U<|ap U<|Y<|Z<|ae Z2 jk U U<|C U<|C U<|zb (l4 f hn k i (by omega) (by omega)) U<|Y<|zq U (fun cl=>?_) (fun cl=>?_)
  ·have hl:(i:Int)∈aj f k:=wg cl;rw[if_pos hl] at hsu;refine za<|Z<|C U<|X (q7 U U)<|Y<|zh U (fun c2=>?_) (fun c2=>?_)
   ·have h2:(jT f i)=[]:=by
     refine JD fun h=>?_;obtain ⟨r,hr⟩:=JG f i (k+1);rcases hS with ⟨h1,_⟩|⟨_,h1⟩
     ·omega
     rw[hr,hsu,h1] at h;simp at h
    rw[h2];refine Z<|X (kT U)<|Y<|yd (aR.slot (t:=4) U (yY.nil 3))<|zf<|yz (x:=.fro _ _) U ?_
    rfl
   have h1:vV f i k=[]:=by
    rcases hS with ⟨_,h1⟩|⟨h1,_⟩
    ·exact h1
    omega
   refine zc<|bZ<|C U<|ap U<|Y<|bQ U U ?_;exact ⟨(k+1,(k:Int)),eX,cV,aJ,⟨hk2,.inr ⟨⟨by omega,by omega⟩,by rw[hsu,h1];rfl⟩⟩,by dsimp only;omega⟩
  have hl:¬(i:Int)∈aj f k:=wh cl;rw[if_neg hl,w8] at hsu;refine zc<|bQ U U ?_;exact ⟨(k+1,fr),eX,cV,aJ,⟨hk2,by unfold Nz;rw[hsu];exact hS⟩,by dsimp only;omega⟩
 obtain rfl:k=f.q.length:=by omega
 unfold Nz at hS;rw[JH] at hS;refine zt<|za<|Z<|C U<|aq U U<|Y<|zh U (fun c3=>?_) (fun c3=>?_)
 ·have h2:(jT f i)=[]:=by
   refine JD fun h=>?_;rcases hS with ⟨_,h1⟩|⟨h1,_⟩
   ·rw[h1] at h;cases h
   omega
  rw[h2];refine Z<|X (kT U)<|Y<|yd (aR.slot (t:=4) U (yY.nil 3))<|zf<|yz (x:=.fro _ _) U ?_
  rfl
 obtain ⟨hfr,hp⟩:(0≤fr∧fr<f.q.length)∧bm (aj f) f.q.length i=[fr]:=by
  rcases hS with ⟨h1,_⟩|h1
  ·omega
  exact h1
 obtain ⟨q,rfl⟩:∃q:Nat,fr=(q:Int):=⟨fr.toNat,by omega⟩;have hq:=qt (show q<f.q.length by omega);obtain ⟨B,hB⟩:∃B,f.q[q]=B:=⟨_,rfl⟩;rw[hB] at hq;have hbq:=dg hq;have hat:jT f i=if B.t.kind=1∧B.t.to0≠B.t.to1 then rh f B.t.var (decide (B.t.to0=i)) else[]:=by unfold jT;rw[hp];dsimp only;rw[hbq]
 refine zc<|Z<|ao jf U Zd U U<|aK Zf U<|C U<|X (bD q jr Z1 U U U hq)<|ao ji U Zp U U<|ae Xl Zp U U<|zp (cs:=[.i 0,.i 0,.i 0,.i 0]) Xg U U<|fun i7=>zi Zp U U U U U U .head U<|y9 (zz (t:=7) U .head)<|Y<|za<|za<|y3 (γ:=Bool) [1,2,7] (fun u=>[(41,.bool u)]) (fun u=>[]) (fun u=>u=decide (¬(B.t.kind=1∧B.t.to0≠B.t.to1))) ?_ (fun _ _ h=>h) ?_
 ·clear hat hbq hB hp;refine bZ<|ao jj U Y5 U U<|aD Yk U<|aT U U<|aw U<|zo (s:=33) U (fun c1=>?_) (fun c1=>?_)
  ·refine H U U c1<|H U U c1<|H U U c1<|H U U c1<|H U U c1<|H U U c1<|H U U c1<|aA U c1 U<|Y ?_;exact ⟨_,(by repeat (first|with_reducible exact yc _ _|refine yk rfl ?_|exact eX)),aN,aJ,by simp_all⟩
  refine M U U c1<|ao jj U Zi U U<|M U U c1<|X (yt (j:=0) Z8 j9 U U U (by decide) U)<|M U U c1<|aD jg U<|M U U c1<|ao jj U Zi U U<|M U U c1<|X (yt (j:=1) Z8 j9 U U U (by decide) U)<|M U U c1<|aD jg U<|M U U c1<|au U U<|ay U c1 U<|Y ?_;exact ⟨_,(by repeat (first|with_reducible exact yc _ _|refine yk rfl ?_|exact eX)),aN,aJ,by simp_all⟩
 rintro u hu;refine zq U (fun cu=>?_) (fun cu=>?_)
 ·rw[hat,if_neg (wg (hu▸cu))];refine Z<|X (kT U)<|Y<|yd (aR.slot (t:=4) U (yY.nil 3))<|zf<|yz (x:=.fro _ _) U ?_
  rfl
 have hc:B.t.kind=1∧B.t.to0≠B.t.to1:=by rw[hu] at cu;simpa using cu
 rw[hat,if_pos hc];have hbm:=w5 hq;have hvk:bn f B.t.var=true:=by
  have h1:=(hR.run.t _ hbm);unfold bP at h1;rw[if_neg (by omega),if_pos hc.1] at h1;simp only[wc] at h1;exact h1.1.1
 refine zc<|Z<|ae Z2 jk U U<|ao jj U j9 U U<|aD jg U<|ao jj U Zi U U<|X (yt (j:=0) Z8 j9 U U U (by decide) U)<|aD jg U<|C U<|au U U<|zb (yP f hf hR hv B.t.var (decide (B.t.to0=(i:Int))) hvk) U<|X (oU U)<|Y<|zf<|yz (x:=.fro _ _) U ?_
 rfl
end
section
open Go.Proofs.Tryz
open Go.Proofs Go.Lib Go.Shelf Go.RowKit
theorem NA:eS prog 73 #[(0,3),(3,3),(6,1),(7,1)] [.n,.n,.n,.n,.n,.n,.n,.int .i64 0]:=⟨_,_,Zk,zeroValue73,fun w=>by kernel_rfl,rfl⟩
theorem Px:eS prog 83 #[(0,1),(1,1),(2,1)] [.i 0,.n,.n]:=⟨_,_,Z3,Y0,fun w=>by kernel_rfl,rfl⟩
theorem DE:dp prog 57 83 1 3 [.i 0,.n,.n]:=⟨_,Z6,Ze,Y0,by decide,by decide,by kernel_rfl⟩
variable {E:World}
set_option maxRecDepth 20000
def jN (b:aF):List AV:=[.str b.name,.n,.fro 4 (b.s.map bu),.i b.t.kind,.i b.t.var,.i b.t.to0,.i b.t.to1]
def jO (l:List Int):List AV:=[.fro 1 (l.map b7)]
theorem Ca (l:List aF):((l.map jN).flatten).length=l.length*7:=er (k:=7) (fun _=>rfl) l
theorem pW (l:List (List Int)):((l.map jO).flatten).length=l.length*1:=er (k:=1) (fun _=>rfl) l
theorem JI (n:Nat):oN (List.replicate n [AV.e,.n,.n,.i 0,.i 0,.i 0,.i 0]).flatten ((List.replicate n Bu).map jN).flatten:=by
 rw[List.map_replicate];exact oN.rep (.cons (.refl _) (.cons (.refl _) (.cons (yY.nil 4) (.cons (.refl _) (.cons (.refl _) (.cons (.refl _) (.cons (.refl _) .nil))))))) n
theorem JJ (n:Nat):oN (List.replicate n [AV.n]).flatten ((List.replicate n ([]:List Int)).map jO).flatten:=by
 rw[List.map_replicate];exact oN.rep (.cons (yY.nil 1) .nil) n
theorem GH {l:List (List Int)} {j:Nat} {r:List Int} (h:l[j]?=some r):((l.map jO).flatten).drop (j*1)=.fro 1 (r.map b7)::((l.drop (j+1)).map jO).flatten:=by
 obtain ⟨h1,h2⟩:=List.getElem?_eq_some_iff.1 h;have e:l=l.take j++r::l.drop (j+1):=by rw[←h2,←List.drop_eq_getElem_cons h1,List.take_append_drop]
 have e2:(l.map jO).flatten=((l.take j).map jO).flatten++(.fro 1 (r.map b7)::((l.drop (j+1)).map jO).flatten):=by
  conv=>lhs;rw[e,w7,List.flatten_append,List.map_cons,List.flatten_cons]
  rfl
 rw[e2,List.drop_left' (by rw[pW,w9];omega)]
theorem OP (l:List Int):cI l=(l.map b7).flatten:=(lN l).symm
theorem JK {l:List aF} {b:Nat} (h:b<l.length) (c:aF):((l.map jN).flatten).take (b*7)++jN c++((l.map jN).flatten).drop (b*7+7)=((l.set b c).map jN).flatten:=by
 rw[BV (k:=7) (r:=jN c) (fun x hx=>by obtain ⟨_,_,rfl⟩:=List.mem_map.1 hx;rfl) (by rw[w2];exact h) rfl,List.map_set]
theorem JL {l:List (List Int)} {b:Nat} (h:b<l.length) (r:List Int):((l.map jO).flatten).set (b*1) (.fro 1 (r.map b7))=((l.set b r).map jO).flatten:=by
 have e:=xj (rows:=l.map jO) (j:=b) (i:=0) (k:=1) (r:=jO l[b]) (v:=.fro 1 (r.map b7)) (fun x hx=>by obtain ⟨_,_,rfl⟩:=List.mem_map.1 hx;rfl) (by rw[w3,qt h];rfl) (by decide);rw[Nat.add_zero] at e;rw[e,List.map_set];rfl
theorem JM {f:ab} {b:Int} (h:eQ f b=true):0≤b∧b<f.q.length:=by
 unfold eQ at h;simp only[wc,wi] at h;exact h
theorem Cb {l:List Int} {v:Int} (h0:0≤v) (h1:v<l.length):l[v.toNat]?=some (vi l v):=by
 unfold vi;rw[qt (by omega)];rfl
theorem GI {n k:Nat} (h:k<n):(ba n).take (k+1)=(ba n).take k++[(k:Int)]:=by
 have hg:(ba n)[k]?=some (k:Int):=by unfold ba;rw[w3,List.getElem?_range h];rfl
 rw[List.take_add_one,hg];rfl
def pX (f:ab) (bs:List aF) (k:Nat):List (List AV):=((bh f).q.take k).map bK++(bs.drop k).map jN
theorem JN {f:ab} {bs:List aF} {k:Nat} {c:aF} (h:bs[k]?=some c):(pX f bs k).flatten=(((bh f).q.take k).map bK).flatten++(jN c++((bs.drop (k+1)).map jN).flatten):=by
 obtain ⟨h1,h2⟩:=List.getElem?_eq_some_iff.1 h;unfold pX;rw[List.flatten_append,List.drop_eq_getElem_cons h1,h2,List.map_cons,List.flatten_cons]
theorem JO {f:ab} {bs:List aF} {k:Nat} {d:aF} (h:(bh f).q[k]?=some d):(pX f bs (k+1)).flatten=(((bh f).q.take k).map bK).flatten++(bK d++((bs.drop (k+1)).map jN).flatten):=by
 unfold pX;rw[List.flatten_append,List.take_add_one,h,w7,List.flatten_append,qv]
 congr 1
set_option maxHeartbeats 16000000 in
theorem DF {f:ab} (hf:small f) (hR:bq f) (hv:f.v.length≤100) (hn:f.q.length≤40) (hi:∀b∈f.q,b.s.length≤400):aS prog E 10 [.agg (bH f)] (.agg (bH (bh f))):=by
 have hnn:f.q.length≤1000:=by omega
 have hpos:=hR.hE.pos;have hol:=B6 hR;have hO:aX prog E 23 [C7 (oK f),.i 0] [] (fun y O=>∃g:Nat,y=.j g (kr f).length∧O=[(g,.u 1 3 (cI (kr f)))]∧True):=pV (E:=E) hR hnn f.q.length 0 hpos (by have:=hR.levL (b:=0) ⟨Int.le_refl _,by omega⟩;show (_:Int)≤_+gi _ 0;omega)
 refine zm func10 U (by decide) U<|Z<|zx (cs:=_) U U U<|zp (cs:=[.n,.n,.n]) zeroValue26 U U<|fun i2=>Y<|Z<|ae Z2 jk U U<|zb (vH f hR.hE hnn) U<|X (oU U)<|Y<|za<|y3 (γ:=Nat × Nat × Nat) [1,2,3] (fun g=>[(4,.po g.1 0)]) (fun g=>[(g.1,.cells 73 [.fro 2 (f.v.map bO),.fro 1 (f.z.map b7),.fro 7 (f.q.map bK),.j g.2.1 (0+(f.v.map bO).length),.fro 1 (f.z.map b7),.j g.2.2 f.q.length,.n,.int .i64 0]),(g.2.1,.u 2 48 (f.v.map bO).flatten),(g.2.2,.u 7 59 (List.replicate f.q.length [AV.e,.n,.n,.int .i64 0,.int .i64 0,.int .i64 0,.int .i64 0]).flatten),(i2,.cells 26 [.n,.n,.n])]) (fun g=>True) ?_ (fun _ _ h=>h) ?_
 ·refine zn (fun j=>false) (by kernel_rfl) U (zk (.rest _))<|D 0 U (yj Z2 jk U U)<|D 2 U (dk jf U Zs U U)<|D 3 U (gJ Y4 U)<|D 5 U (dk jf U jh U U)<|D 6 U (gJ jy U)<|D 7 U (dk jf U Zd U U)<|D 8 U (gJ Zf U)<|D 9 U (Gv.lenM jr U)<|yq (i:=1) (j:=10) U U (by kernel_rfl) ?_ ?_
  ·refine yf (k:=2) Z7 type48<|fun i33=>Y<|yq (i:=4) (j:=10) U U (by kernel_rfl) ?_ ?_
   ·refine yb (k:=2) Z7 type48 U U U U U (fun _=>.head) U (by decide) (m0 (fun _=>U) _) (by rw[w2];show (0+_)*24≤_;omega) (by rw[w2];omega)<|fun i36=>Y<|bp 10 U<|ax.makeZ (m:=f.q.length) [.string ⟨#[]⟩,.slice none 0 0,.slice none 0 0,.int .i64 0,.int .i64 0,.int .i64 0,.int .i64 0] jr type59 U U U (by decide) (by decide) U U (by simp) (by simp) (by show (96:Int)*_≤_;omega) (by omega)<|fun i42=>Y<|D 11 U (y5 (cps:=[(0,[_]),(1,[_]),(2,[_])]) (rs:=[_,_,_]) K8 U U U)<|D 12 U (y5 (cps:=[(0,[_,_,_]),(1,[_,_,_])]) (rs:=[_,_,_,_,_,_,.n,.int .i64 0]) NA U U U)<|bp 13 U<|qi (cs:=_) U U U U<|fun i45=>cC .t3<|cC .t2<|cC .t3<|cC .t3<|Y<|D 14 U (xw U)<|dS ?_;exact ⟨(i45,i36,i42),(by repeat (first|with_reducible exact yc _ _|refine yk rfl ?_|exact eX)),aN,aJ,trivial⟩
   refine ax.makeZ (m:=f.q.length) [.string ⟨#[]⟩,.slice none 0 0,.slice none 0 0,.int .i64 0,.int .i64 0,.int .i64 0,.int .i64 0] jr type59 U U U (by decide) (by decide) U U (by simp) (by simp) (by show (96:Int)*_≤_;omega) (by omega)<|fun i42=>Y<|bp 4 U<|yb (k:=2) Z7 type48 U U U U U (fun _=>.t1) U (by decide) (m0 (fun _=>U) _) (by rw[w2];show (0+_)*24≤_;omega) (by rw[w2];omega)<|fun i36=>Y<|D 11 U (y5 (cps:=[(0,[_]),(1,[_]),(2,[_])]) (rs:=[_,_,_]) K8 U U U)<|D 12 U (y5 (cps:=[(0,[_,_,_]),(1,[_,_,_])]) (rs:=[_,_,_,_,_,_,.n,.int .i64 0]) NA U U U)<|bp 13 U<|qi (cs:=_) U U U U<|fun i45=>cC .t3<|cC .t2<|cC .t3<|cC .t3<|Y<|D 14 U (xw U)<|dS ?_;exact ⟨(i45,i36,i42),(by repeat (first|with_reducible exact yc _ _|refine yk rfl ?_|exact eX)),aN,aJ,trivial⟩
  refine ax.makeZ (m:=f.q.length) [.string ⟨#[]⟩,.slice none 0 0,.slice none 0 0,.int .i64 0,.int .i64 0,.int .i64 0,.int .i64 0] jr type59 U U U (by decide) (by decide) U U (by simp) (by simp) (by show (96:Int)*_≤_;omega) (by omega)<|fun i42=>Y<|bp 1 U<|yf (k:=2) Z7 type48<|fun i33=>Y<|bp 4 U<|yb (k:=2) Z7 type48 U U U U U (fun _=>.head) U (by decide) (m0 (fun _=>U) _) (by rw[w2];show (0+_)*24≤_;omega) (by rw[w2];omega)<|fun i36=>Y<|D 11 U (y5 (cps:=[(0,[_]),(1,[_]),(2,[_])]) (rs:=[_,_,_]) K8 U U U)<|D 12 U (y5 (cps:=[(0,[_,_,_]),(1,[_,_,_])]) (rs:=[_,_,_,_,_,_,.n,.int .i64 0]) NA U U U)<|bp 13 U<|qi (cs:=_) U U U U<|fun i45=>Y<|D 14 U (xw U)<|dS ?_;exact ⟨(i45,i36,i42),(by repeat (first|with_reducible exact yc _ _|refine yk rfl ?_|exact eX)),aN,aJ,trivial⟩
 rintro ⟨i45,i36,i42⟩ _;refine Z<|ao jf U Zd U U<|aK Zf U<|am jr U<|ax.makeZ (m:=f.q.length) [.slice none 0 0] Zg type23 U U U (by decide) (by decide) U U (by simp) (by simp) (by show (24:Int)*_≤_;omega) (by omega)<|fun i49=>X (eO U)<|Y<|yd (aR.impO .head (JJ f.q.length))<|yd (aR.impO .t3 (JI f.q.length))<|za<|Z<|bj U<|zy U (zk (.r (.r (.r (.r (.r (.rest _))))))) (hO) ?_;rintro r51 O51 ⟨i51,rfl,rfl,_⟩
 refine y9 (aR.knowI (t:=51) U .head U)<|am j7 U<|C U<|Y<|gd .head<|gd .t3<|gd .t3<|gd .t3<|zd<|zu (γ:=Nat × Nat × AV) [1,2,3,4,5,51,52] (fun g=>[(53,.i g.1)]) (fun g=>[(i45,.cells 73 [.fro 2 (f.v.map bO),.fro 1 (f.z.map b7),.fro 7 (f.q.map bK),.j g.2.1 (su f g.1).v.length,.fro 1 (f.z.map b7),.j i42 f.q.length,g.2.2,.int .i64 (su f g.1).k]),(g.2.1,.u 2 48 ((su f g.1).v.map bO).flatten),(i42,.u 7 59 ((su f g.1).blks.map jN).flatten),(i49,.u 1 23 ((su f g.1).ends.map jO).flatten),(i2,.cells 26 [.n,.n,.n])]) (fun g=>g.1≤(kr f).length) (fun g=>(kr f).length - g.1) (0,i36,.n) aN ⟨_,(.refl _),by rw[w2,Nat.zero_add];rfl⟩ (qw _) ?_;rintro ⟨m,jv,av⟩ hm;try dsimp only at *
 refine Z<|aq U U<|Y<|za<|zh U (fun cm=>?_) (fun cm=>?_)
 ·have hm2:m<(kr f).length:=by simp at cm;omega
  obtain ⟨b,hLb⟩:∃b:Nat,(kr f)[m]?=some (b:Int):=by
   have h:=qt hm2;have hr:=(hR.ordB.at_ h).1;exact ⟨((kr f)[m]).toNat,by rw[h];congr 1;omega⟩
  obtain ⟨⟨hb0,hb1⟩,-⟩:=hR.ordB.at_ hLb;have hbn:b<f.q.length:=by omega
  obtain ⟨old,hgb⟩:∃old,f.q[b]?=some old:=⟨_,qt hbn⟩;have hbe:aQ f (b:Int)=old:=dg hgb;have hbm:old∈f.q:=w5 hgb;have hwo:=yO hR m;have hwb:=Nw hR hv hn hi hm;have hcr:=fun i h=>EV hR hv hn hi hm (b:Int) (i:=i) h;have hci:=fun i h=>LB hR hv hn hi hm (b:Int) (i:=i) h;have hSn:=Lz hR hLb;have hnr:=Jz hR hLb;have hsu:=Ju hLb;have hrl:=ET hR (b:Int);have hol2:=hi _ hbm;obtain ⟨W,hW⟩:∃W,su f m=W:=⟨_,rfl⟩;rw[hW] at hwo hwb hcr hci hSn hnr hsu;obtain ⟨S,hS⟩:∃S,dP f W b=S:=⟨_,rfl⟩;have e1:S.v=W.v:=by rw[←hS];rfl
  have e2:S.k=W.k:=by rw[←hS];rfl
  have e3:S.now=if 0≤nearD f b then fq W.ends (nearD f b) else ba f.v.length:=by rw[←hS];rfl
  rw[hS] at hcr hci hSn;rw[hbe] at hci;have hel:=hwo.el;have hbl:=hwo.bl;rw[hW];refine zc<|za<|zd<|Z<|X (bD m j7 j9 U U U hLb)<|aD jg U<|ap U<|Y<|Z<|bf U<|aC U<|X (ze Zk U jh (by decide) U U)<|yh (l:=[_]) (new:=[_,_,_,_,_,_,_,_]) jh U U U U U U .head U U<|Y<|za<|Z<|bj U<|C U<|zb (rU f hnn b hbn) U<|ap U<|Y<|Z<|C U<|X (q7 U U)<|Y<|y3 (γ:=Nat) [1,2,3,4,5,7,51,52,53] (fun u=>[]) (fun u=>[(u,.u 1 3 (cI S.now)),(i45,.cells 73 [.fro 2 (f.v.map bO),.fro 1 (f.z.map b7),.fro 7 (f.q.map bK),.j jv W.v.length,.fro 1 (f.z.map b7),.j i42 f.q.length,.j u f.v.length,.i W.k]),(jv,.u 2 48 (W.v.map bO).flatten),(i42,.u 7 59 (W.blks.map jN).flatten),(i49,.u 1 23 (W.ends.map jO).flatten),(i2,.cells 26 [.n,.n,.n])]) (fun u=>True) ?_ (fun _ _ h=>h) ?_
  ·refine zq U (fun cn=>?_) (fun cn=>?_)
   ·have h0:0≤nearD f b:=by simpa using cn
    obtain ⟨hr1,hr2,hr3⟩:=hnr h0;rw[if_pos h0] at e3;rw[←e3] at hr2 hr3
    refine fY (off:=6) (k:=1) (T:=3) (fun _=>.head) U<|fun jn=>zn (fun j=>Nat.beq j 12) (by kernel_rfl) U (zk (.l (.r (.l (.l (.r (.rest _)))))))<|D 0 U (dZ U)<|D 1 U (dZ U)<|D 2 U (zr U)<|D 3 U (ze Zk U jh (by decide) U U)<|D 4 U (zj (c:=.j _ _) jy U ⟨_,.head⟩ U)<|D 5 U (Kc U)<|D 6 U (dC U)<|D 7 U (Gv.idxO (j:=(nearD f b).toNat) Zg jh U U (by omega) ⟨_,.t1⟩ (fun h=>by have:=pW W.ends;rw[h] at this;simp at this;omega) (by omega))<|D 8 U (qq (c:=_) jy U ⟨_,.t1⟩ (GH hr2))<|bp 9 U<|yb (k:=1) j7 Y6 U U U U U (fun _=>.head) U (by decide) (m0 (fun _=>U) _) (by rw[w2];show (0+_)*8≤_;omega) (by rw[w2];omega)<|fun i74=>Y<|yo (i:=10) U (by kernel_rfl) (by kernel_rfl) (by kernel_rfl) (by kernel_rfl) (zr U)<|D 11 U (ze Zk U jh (by decide) U U)<|y4<|yg (i:=12) U (by kernel_rfl) (by kernel_rfl)<|yh (l:=[_]) (new:=[_,_,_,_,_,_,_,_]) jh U U U U U U .head U U<|cC .t5<|cC .t2<|cC .t5<|cC .t5<|cC .t4<|cC .t5<|Y<|y8 (by kernel_rfl) ?_
    exact ⟨i74,(by repeat (first|with_reducible exact yc _ _|refine yk rfl ?_|exact p9)),trivial,⟨_,(.refl _),(by show [(_,_),(_,bC.cells _ [_,_,_,_,_,_,.j i74 (0+(S.now.map b7).length),_]),_,_,_,_]=_;rw[w2,hSn,Nat.zero_add,OP];rfl)⟩,trivial⟩
   have h0:¬0≤nearD f b:=by simpa using cn
   rw[if_neg h0] at e3;refine fY (off:=6) (k:=1) (T:=3) (fun _=>.head) U<|fun jn=>Z<|ao jf U Zs U U<|aK Y4 U<|am Z7 U<|C U<|Y<|zd<|zu (γ:=Nat × Nat) [1,2,3,4,5,7,51,52,53,79] (fun g=>[(80,.i g.1)]) (fun g=>[(g.2,.u 1 3 (cI ((ba f.v.length).take g.1))),(i45,.cells 73 [.fro 2 (f.v.map bO),.fro 1 (f.z.map b7),.fro 7 (f.q.map bK),.j jv W.v.length,.fro 1 (f.z.map b7),.j i42 f.q.length,.j g.2 g.1,.i W.k]),(jv,.u 2 48 (W.v.map bO).flatten),(i42,.u 7 59 (W.blks.map jN).flatten),(i49,.u 1 23 (W.ends.map jO).flatten),(i2,.cells 26 [.n,.n,.n])]) (fun g=>g.1≤f.v.length) (fun g=>f.v.length - g.1) (0,jn) aN aJ (qw _) ?_;rintro ⟨k,jn⟩ hk;try dsimp only at *
   refine Z<|aq U U<|Y<|za<|zh U (fun ck=>?_) (fun ck=>?_)
   ·have hk2:k<f.v.length:=by simp at ck;omega
    refine zc<|za<|zd<|Z<|C U<|ap U<|Y<|bZ<|bf U<|bf U<|aC U<|X (ze Zk U jh (by decide) U U)<|X (zj (c:=.j _ _) jy U ⟨_,.t1⟩ U)<|C U<|zw (rows:=[[_]]) ed U U U U U<|yb (k:=1) j7 Y6 U U U U U (fun _=>.head) (by rw[aH,w9,cA];omega) (by decide) U (by show (_+1)*8≤_;omega) (by show _+1≤_;omega)<|fun i90=>aC U<|X (ze Zk U jh (by decide) U U)<|yh (l:=[_]) (new:=[_,_,_,_,_,_,_,_]) jh U U U U U U .t1 U U<|Y<|bQ U U ?_;exact ⟨(k+1,i90),jX,aN,⟨_,(.refl _),(by rw[GI hk2,←lO];rfl)⟩,hk2,by dsimp only;omega⟩
   obtain rfl:k=f.v.length:=by simp at ck;omega
   refine zt ?_;exact ⟨jn,(by repeat (first|with_reducible exact yc _ _|refine yk rfl ?_|exact p9)),trivial,⟨_,(.refl _),(by rw[e3,List.take_of_length_le (by rw[cA];omega)])⟩,trivial⟩
  rintro jn _
  refine Z<|ao jf U Zd U U<|aK Zf U<|C U<|X (bD b jr Z1 U U U hgb)<|ae Ye Z1 U U<|zp (cs:=[.e,.n,.n,.int .i64 0,.int .i64 0,.int .i64 0,.int .i64 0]) Zh U U<|fun i10=>zi Z1 U U U U U U .head U<|y9 (zz (t:=10) U .head)<|Y<|Z<|X (kT U)<|Y<|gN (t:=11) (k:=4) (T:=51) U<|fun i11=>za<|Z<|ae Z2 jk U U<|C U<|zb (GG hf hR b) U<|am underlying77 U<|C U<|Y<|gd .t1<|gd .t3<|gd .t3<|zd<|zu (γ:=Nat × Nat × Nat) [1,2,3,4,5,7,10,51,52,53,101,102] (fun g=>[(103,.i g.1),(11,.j g.2.2 (oT f S b g.1).2.length)]) (fun g=>[(i45,.cells 73 [.fro 2 (f.v.map bO),.fro 1 (f.z.map b7),.fro 7 (f.q.map bK),.j g.2.1 (oT f S b g.1).1.v.length,.fro 1 (f.z.map b7),.j i42 f.q.length,.j jn (oT f S b g.1).1.now.length,.int .i64 (oT f S b g.1).1.k]),(g.2.1,.u 2 48 ((oT f S b g.1).1.v.map bO).flatten),(jn,.u 1 3 (cI (oT f S b g.1).1.now)),(g.2.2,.u 4 51 ((oT f S b g.1).2.map bu).flatten),(i42,.u 7 59 (W.blks.map jN).flatten),(i49,.u 1 23 (W.ends.map jO).flatten),(i2,.cells 26 [.n,.n,.n])]) (fun g=>g.1≤(jT f b).length) (fun g=>(jT f b).length - g.1) (0,jv,i11) cV ⟨_,(.refl _),(by show _=[_,(_,bC.u _ _ (S.v.map bO).flatten),_,_,_,_,_];rw[e1];show _=[(_,bC.cells _ [_,_,_,.j _ S.v.length,_,_,.j _ S.now.length,.int _ S.k]),_,_,_,_,_,_];rw[e1,hSn,e2];rfl)⟩ (qw _) ?_
  rintro ⟨i,jv,jl⟩ hi2;try dsimp only at *
  refine Z<|aq U U<|Y<|za<|zh U (fun ci=>?_) (fun ci=>?_)
  ·have hi3:i<(jT f b).length:=by simp at ci;omega
   obtain ⟨r,hr⟩:∃r,(jT f b)[i]?=some r:=⟨_,qt hi3⟩;obtain ⟨⟨ra0,ra1⟩,rb0,rb1⟩:=hR.inf.rel b r (w5 hr);have hps:=GB (S:=S) hr;have hpl:=(Jw f S b i).trans hSn;have hM:=(hcr i (by omega)).mid hv hwb.1 (by omega) (by omega);have hc1:=hcr i (by omega);obtain ⟨p,hp⟩:∃p,oT f S b i=p:=⟨_,rfl⟩;rw[hp] at hps hpl hM hc1;rw[hp];have hva:p.1.now[r.a.toNat]?=some (vi p.1.now r.a):=Cb ra0 (by omega);have hvb:p.1.now[r.b.toNat]?=some (vi p.1.now r.b):=Cb rb0 (by omega)
   refine zc<|za<|zd<|Z<|X (bD i underlying77 Xd U U U hr)<|ae isAgg80 Xd U U<|zp (cs:=[.int .i64 0,.int .i64 0,.int .i64 0]) zeroValue80 U U<|fun i13=>zi Xd U U U U U U .head U<|y9 (zz (t:=13) U .head)<|Y<|za<|zn (fun j=>false) (by kernel_rfl) U (zk (.r (.l (.r (.rest _)))))<|D 0 U (dZ U)<|D 1 U (zr U)<|D 2 U (ze Zk U jh (by decide) U U)<|D 3 U (zj (c:=.j _ _) jy U ⟨_,.head⟩ U)<|D 4 U (dk Yv U j9 U U)<|D 5 U (d9 jg U)<|D 6 U (y7 (j:=r.a.toNat) j7 j9 U U (by omega) ⟨_,.t1⟩ (aH _) (by omega))<|D 7 U (yp (j:=r.a.toNat) jg U ⟨_,.t1⟩ hva)<|D 8 U (dZ U)<|D 9 U (zr U)<|D 10 U (ze Zk U jh (by decide) U U)<|D 11 U (zj (c:=.j _ _) jy U ⟨_,.head⟩ U)<|D 12 U (dk Yv U j9 U U)<|D 13 U (d9 jg U)<|D 14 U (y7 (j:=r.b.toNat) j7 j9 U U (by omega) ⟨_,.t1⟩ (aH _) (by omega))<|D 15 U (yp (j:=r.b.toNat) jg U ⟨_,.t1⟩ hvb)<|D 16 U (DS U)<|D 17 U (DS U)<|dS<|gd .t2<|gd .t1<|Z<|ap U<|Y<|za<|Z<|ao Yv U Z0 U U<|aD Zb U ?_
   refine Y<|y3 (γ:=Int) [1,2,3,4,5,7,10,11,13,14,15,51,52,53,101,102,103] (fun u=>[(16,.i u)]) (fun u=>[(i45,.cells 73 [.fro 2 (f.v.map bO),.fro 1 (f.z.map b7),.fro 7 (f.q.map bK),.j jv p.1.v.length,.fro 1 (f.z.map b7),.j i42 f.q.length,.j jn p.1.now.length,.i p.1.k]),(jv,.u 2 48 (p.1.v.map bO).flatten),(jn,.u 1 3 (cI p.1.now)),(jl,.u 4 51 (p.2.map bu).flatten),(i42,.u 7 59 (W.blks.map jN).flatten),(i49,.u 1 23 (W.ends.map jO).flatten),(i2,.cells 26 [.n,.n,.n])]) (fun u=>u=lF r.n) ?_ (fun _ _ h=>h) ?_
   ·refine zd<|Z<|au U U<|ah U<|Y<|zq U (fun c1=>?_) (fun c1=>?_)
    ·refine bZ<|ap U<|Y ?_;exact ⟨_,(by repeat (first|with_reducible exact yc _ _|refine yk rfl ?_|exact ⟨rfl,rfl,rfl,rfl,rfl,rfl,rfl,rfl,rfl,rfl,rfl,rfl,rfl,rfl,rfl,rfl,rfl,trivial⟩)),aN,aJ,by unfold lF;simp_all⟩
    refine Z<|au U U<|ah U<|Y<|zq U (fun c2=>?_) (fun c2=>?_)
    ·refine bZ<|ap U<|Y ?_;exact ⟨_,(by repeat (first|with_reducible exact yc _ _|refine yk rfl ?_|exact ⟨rfl,rfl,rfl,rfl,rfl,rfl,rfl,rfl,rfl,rfl,rfl,rfl,rfl,rfl,rfl,rfl,rfl,trivial⟩)),aN,aJ,by unfold lF;simp_all⟩
    refine zc ?_;exact ⟨_,(by repeat (first|with_reducible exact yc _ _|refine yk rfl ?_|exact ⟨rfl,rfl,rfl,rfl,rfl,rfl,rfl,rfl,rfl,rfl,rfl,rfl,rfl,rfl,rfl,rfl,rfl,trivial⟩)),aN,aJ,by unfold lF;simp_all⟩
   rintro u hu;subst hu;obtain ⟨a,ha⟩:=Int.eq_ofNat_of_zero_le ra0;obtain ⟨c,hc⟩:=Int.eq_ofNat_of_zero_le rb0;have hq1:=pU f p r.a ⟨25,0,[vi p.1.now r.a,vi p.1.now r.b],r.n⟩;have hM1:=(hc1.put r.a ⟨25,0,[vi p.1.now r.a,vi p.1.now r.b],r.n⟩).mid hv hwb.1 (by omega) (by omega);have hP1:=Jt (E:=E) f hf i42 f.q.length i45 jn p jv jl r.a ra0 (by omega) ⟨25,0,[vi p.1.now r.a,vi p.1.now r.b],r.n⟩ (by have:=hM.k;omega) (by have:=hM.v;omega) (by have:=hM.ins;omega);obtain ⟨q,hq⟩:∃q,fp f p r.a ⟨25,0,[vi p.1.now r.a,vi p.1.now r.b],r.n⟩=q:=⟨_,rfl⟩;rw[hq] at hP1 hq1 hM1;have hP2:=fun jv jl=>Jt (E:=E) f hf i42 f.q.length i45 jn q jv jl r.b rb0 (by omega) ⟨25,0,[vi p.1.now r.b,vi p.1.now r.a],lF r.n⟩ (by have:=hM1.k;omega) (by have:=hM1.v;omega) (by have:=hM1.ins;omega);have hre:gZ f p r=fp f q r.b ⟨25,0,[vi p.1.now r.b,vi p.1.now r.a],lF r.n⟩:=by unfold gZ;rw[hq]
   rw[←hre] at hP2;unfold B3 OJ at hP1 hP2;refine Z<|bf U<|bX U<|ao Yv U j9 U U<|aD jg U<|C U<|C U<|zw (rows:=[[_],[_]]) tv U U U U U<|ao Yv U Z0 U U<|aD Zb U<|X (y5 (cps:=[(0,[_]),(2,[_]),(3,[_])]) (rs:=[_,.i 0,_,_]) Dk U U U)<|zy U (zk (.l (.l (.l (.l (.r (.r (.r (.rest _))))))))) (hP1) ?_;rintro r139 O139 ⟨⟨jv1,jl1⟩,rfl,rfl,_⟩;refine X (eO U)<|Y<|bZ<|bf U<|bX U<|ao Yv U j9 U U<|aD jg U<|C U<|C U<|zw (rows:=[[_],[_]]) tv U U U U U<|C U<|X (y5 (cps:=[(0,[_]),(2,[_]),(3,[_])]) (rs:=[_,.i 0,_,_]) Dk U U U)<|zy U (zk (.l (.l (.l (.l (.r (.r (.r (.rest _))))))))) (hP2 jv1 jl1) ?_;rintro r149 O149 ⟨⟨jv2,jl2⟩,rfl,rfl,_⟩;refine X (eO U)<|Y<|bQ U U ?_;exact ⟨(i+1,jv2,jl2),lK,⟨rfl,(congrArg (AV.j jl2) (by dsimp only;rw[hps])),trivial⟩,⟨_,(.refl _),(by dsimp only;rw[hps];rfl)⟩,hi3,by dsimp only;omega⟩
  obtain rfl:i=(jT f b).length:=by simp at ci;omega
  rw[Jx];refine zt<|za<|Z<|ao ji U Zw U U<|aK Y3 U<|am Z4 U<|C U<|Y<|zd<|zu (γ:=Nat × Nat × Nat) [1,2,3,4,5,7,10,51,52,53,152,153] (fun g=>[(154,.i g.1),(11,.j g.2.2 (nq f S b g.1).2.length)]) (fun g=>[(i45,.cells 73 [.fro 2 (f.v.map bO),.fro 1 (f.z.map b7),.fro 7 (f.q.map bK),.j g.2.1 (nq f S b g.1).1.v.length,.fro 1 (f.z.map b7),.j i42 f.q.length,.j jn (nq f S b g.1).1.now.length,.i (nq f S b g.1).1.k]),(g.2.1,.u 2 48 ((nq f S b g.1).1.v.map bO).flatten),(jn,.u 1 3 (cI (nq f S b g.1).1.now)),(g.2.2,.u 4 51 ((nq f S b g.1).2.map bu).flatten),(i42,.u 7 59 (W.blks.map jN).flatten),(i49,.u 1 23 (W.ends.map jO).flatten),(i2,.cells 26 [.n,.n,.n])]) (fun g=>g.1≤old.s.length) (fun g=>old.s.length - g.1) (0,jv,jl) cV aJ (qw _) ?_;rintro ⟨i,jv,jl⟩ hi4;try dsimp only at *
  refine Z<|aq U U<|Y<|za<|zh U (fun cx=>?_) (fun cx=>?_)
  ·have hi5:i<old.s.length:=by simp at cx;omega
   obtain ⟨x,hx⟩:∃x,old.s[i]?=some x:=⟨_,qt hi5⟩;have hxm:=w5 hx;have hxa:=hR.inf.args old hbm x hxm;have hx2:=hR.inf.two old hbm x hxm;have hxl:x.args.length≤1000:=(hf.2.2.2.2 old hbm).2.2.2.2 x hxm;have hps:=GC (S:=S) (b:=(b:Int)) (by rw[hbe];exact hx);have hpl:=(B5 f S b i).trans hSn;have hc1:=hci i (by omega);have hM:=hc1.mid hv hwb.1 (by omega) (by omega);obtain ⟨p,hp⟩:∃p,nq f S b i=p:=⟨_,rfl⟩;rw[hp] at hps hpl hM hc1;rw[hp];have hM1:=hM.v;have hM2:=hM.k;have hM3:=hM.ins
   refine zc<|za<|zd<|Z<|X (bD i Z4 Z9 U U U hx)<|ae Yg Z9 U U<|zp (cs:=[.i 0,.i 0,.n,.i 0]) Zo U U<|fun i18=>zi Z9 U U U U U U .head U<|y9 (zz (t:=18) U .head)<|Y<|Z<|ao jd U Zu U U<|aD Y2 U<|ao jd U j9 U U<|aD jg U<|ao jd U Z0 U U<|aD Zb U<|X (y5 (cps:=[(0,[_]),(1,[_]),(3,[_])]) (rs:=[_,_,.n,_]) Dk U U U)<|zp (cs:=[.i 0,.i 0,.n,.i 0]) Zo U U<|fun i19=>zi Z9 U U U U U U .head U<|Y<|fY (off:=2) (k:=1) (T:=3) (fun _=>.head) U<|fun ja=>za<|Z<|ao jd U jh U U<|aK jy U<|am j7 U<|C U<|Y<|gd .t1<|zd<|zu (γ:=Nat × Nat) [1,2,3,4,5,7,10,11,18,19,51,52,53,152,153,154,166,167] (fun g=>[(168,.i g.1)]) (fun g=>[(i19,.cells 51 [.i x.op,.i x.dst,.j g.2 g.1,.i x.num]),(g.2,.u 1 3 (cI ((x.args.map (vi p.1.now)).take g.1))),(i45,.cells 73 [.fro 2 (f.v.map bO),.fro 1 (f.z.map b7),.fro 7 (f.q.map bK),.j jv p.1.v.length,.fro 1 (f.z.map b7),.j i42 f.q.length,.j jn p.1.now.length,.i p.1.k]),(jv,.u 2 48 (p.1.v.map bO).flatten),(jn,.u 1 3 (cI p.1.now)),(jl,.u 4 51 (p.2.map bu).flatten),(i42,.u 7 59 (W.blks.map jN).flatten),(i49,.u 1 23 (W.ends.map jO).flatten),(i2,.cells 26 [.n,.n,.n])]) (fun g=>g.1≤x.args.length) (fun g=>x.args.length - g.1) (0,ja) aN aJ (qw _) ?_
   rintro ⟨k,ja⟩ hk;try dsimp only at *
   refine Z<|aq U U<|Y<|za<|zh U (fun ca=>?_) (fun ca=>?_)
   ·have hk2:k<x.args.length:=by simp at ca;omega
    obtain ⟨a,ha⟩:∃a,x.args[k]?=some a:=⟨_,qt hk2⟩;obtain ⟨a0,a1⟩:=hxa a (w5 ha);have hva:=Cb (l:=p.1.now) a0 (by omega);have htk:(x.args.map (vi p.1.now)).take (k+1)=(x.args.map (vi p.1.now)).take k++[vi p.1.now a]:=by rw[List.take_add_one,w3,ha];rfl
    refine zc<|za<|zd<|Z<|X (bD k j7 j9 U U U ha)<|aD jg U<|ap U<|Y<|zn (fun j=>Nat.beq j 12) (by kernel_rfl) U (zk (.r (.l (.r (.l (.r (.rest _)))))))<|D 0 U (ze jd U jh (by decide) U U)<|D 1 U (zj (c:=.j _ _) jy U ⟨_,.head⟩ U)<|D 2 U (dZ U)<|D 3 U (zr U)<|D 4 U (ze Zk U jh (by decide) U U)<|D 5 U (zj (c:=.j _ _) jy U ⟨_,.t1⟩ U)<|D 6 U (dC U)<|D 7 U (y7 (j:=a.toNat) j7 j9 U U (by omega) ⟨_,.t2⟩ (aH _) (by omega))<|D 8 U (yp (j:=a.toNat) jg U ⟨_,.t2⟩ hva)<|bp 9 U<|zw (rows:=[[_]]) ed U U U U U<|Y<|bp 10 U<|yb (k:=1) j7 Y6 U U U U U (fun _=>.head) (by rw[aH,w9,w2];omega) (by decide) U (by show (_+1)*8≤_;omega) (by show _+1≤_;omega)<|fun i182=>Y<|D 11 U (ze jd U jh (by decide) U U)<|y4<|yg (i:=12) U (by kernel_rfl) (by kernel_rfl)<|yh (l:=[_]) (new:=[_,_,_,_]) jh U U U U U U .head U U<|cC .t8<|cC .t8<|cC .t8<|cC .t8<|cC .t6<|cC .t8<|cC .t7<|cC .t8<|cC .t8<|Y<|y8 (by kernel_rfl)<|bQ U U ?_
    exact ⟨(k+1,i182),⟨rfl,rfl,rfl,rfl,rfl,rfl,rfl,rfl,rfl,rfl,rfl,rfl,rfl,rfl,rfl,rfl,rfl,rfl,trivial⟩,aN,⟨_,(.refl _),(by dsimp only;rw[htk,←lO];rfl)⟩,hk2,by dsimp only;omega⟩
   obtain rfl:k=x.args.length:=by simp at ca;omega
   have hal:(x.args.map (vi p.1.now)).length=x.args.length:=w2 ..;rw[List.take_of_length_le (by rw[hal];exact Nat.le_refl _)]
   refine yd (aR.knowIC (off:=2) .t1 .head U hal)<|zt<|za<|y3 (γ:=Nat) [1,2,3,4,5,7,10,18,19,51,52,53,152,153,154] (fun u=>[(11,.j u (p.2++[gM p.1 x]).length)]) (fun u=>[(i19,.cells 51 [.i x.op,.i x.dst,.fro 1 ((x.args.map (vi p.1.now)).map b7),.i x.num]),(i45,.cells 73 [.fro 2 (f.v.map bO),.fro 1 (f.z.map b7),.fro 7 (f.q.map bK),.j jv ((p.1,p.2++[gM p.1 x]):gL).1.v.length,.fro 1 (f.z.map b7),.j i42 f.q.length,.j jn ((p.1,p.2++[gM p.1 x]):gL).1.now.length,.i ((p.1,p.2++[gM p.1 x]):gL).1.k]),(jv,.u 2 48 (((p.1,p.2++[gM p.1 x]):gL).1.v.map bO).flatten),(jn,.u 1 3 (cI ((p.1,p.2++[gM p.1 x]):gL).1.now)),(u,.u 4 51 (((p.1,p.2++[gM p.1 x]):gL).2.map bu).flatten),(i42,.u 7 59 (W.blks.map jN).flatten),(i49,.u 1 23 (W.ends.map jO).flatten),(i2,.cells 26 [.n,.n,.n])]) (fun u=>True) ?_ (fun _ _ h=>h) ?_
   ·refine bZ<|bX U<|X (qb Yg Z9 U ⟨_,.head⟩ U)<|zw (rows:=[[_,_,_,_]]) Jq U U U U U<|yb (k:=4) Z4 type51 U U U U U (fun _=>.t4) (er (k:=4) (fun _=>U) _) (by decide) U (by show (_+1)*48≤_;omega) (by show _+1≤_;omega)<|fun i188=>X (eO U)<|Y ?_;exact ⟨i188,(by repeat (first|with_reducible exact yc _ _|refine yk rfl ?_|exact ⟨rfl,rfl,rfl,rfl,rfl,rfl,rfl,rfl,rfl,rfl,rfl,rfl,rfl,rfl,rfl,trivial⟩)),⟨congrArg (AV.j i188) (by rw[qz];rfl),trivial⟩,⟨_,(.refl _),(by dsimp only;rw[←ft (enc:=bu) rfl];rfl)⟩,trivial⟩
   rintro jl _;refine Z<|ao jd U Zu U U<|aD Y2 U<|au U U<|Y<|zh U (fun c18=>?_) (fun c18=>?_)
   ·have c18:x.op=18:=by simpa using c18
    obtain ⟨u,w,huw⟩:=hx2 c18;obtain ⟨w0,w1⟩:=hxa w (by rw[huw];exact .tail _ (.head _));have hq1:((p.1,p.2++[gM p.1 x]):gL).2.length≤1000000:=by show (p.2++_).length≤_;rw[qz];show _+1≤_;omega
    have hP1:=Jt (E:=E) f hf i42 f.q.length i45 jn (p.1,p.2++[gM p.1 x]) jv jl w w0 (by show w<p.1.now.length;omega) ⟨26,0,[vi p.1.now w,vi p.1.now u],0⟩ (by show p.1.k≤_;omega) (by show p.1.v.length≤_;omega) hq1;have hre:gC f p x=fp f (p.1,p.2++[gM p.1 x]) w ⟨26,0,[vi p.1.now w,vi p.1.now u],0⟩:=by unfold gC;rw[if_pos c18];unfold dH fw;rw[huw];rfl
    rw[←hre] at hP1;unfold B3 OJ at hP1;refine zn (fun j=>false) (by kernel_rfl) U (zk (.r (.rest _)))<|D 0 U (dZ U)<|D 1 U (Kc U)<|D 2 U (dk jd U jh U U)<|D 3 U (gJ jy U)<|D 4 U (bD 1 j7 j9 U U U (show x.args[1]?=some w by rw[huw];rfl))<|D 5 U (d9 jg U)<|D 6 U (ze jd U jh (by decide) U U)<|D 7 U (zj (c:=.fro _ _) jy U ⟨_,.head⟩ U)<|D 8 U (bD 1 j7 j9 U U U (show (x.args.map (vi p.1.now))[1]?=some (vi p.1.now w) by rw[huw];rfl))<|D 9 U (d9 jg U)<|D 10 U (ze jd U jh (by decide) U U)<|D 11 U (zj (c:=.fro _ _) jy U ⟨_,.head⟩ U)<|D 12 U (bD 0 j7 j9 U U U (show (x.args.map (vi p.1.now))[0]?=some (vi p.1.now u) by rw[huw];rfl))<|D 13 U (d9 jg U)<|bp 14 U<|zw (rows:=[[_],[_]]) tv U U U U U<|Y<|D 15 U (y5 (cps:=[(0,[_]),(2,[_])]) (rs:=[_,.int .i64 0,_,.int .i64 0]) Dk U U U)<|bp 16 U<|zy U (zk (.l (.l (.l (.l (.r (.r (.r (.rest _))))))))) (hP1) ?_
    rintro r208 O208 ⟨⟨jv1,jl1⟩,rfl,rfl,_⟩;refine Y<|D 17 U (eO U)<|dS<|yd (qe .head)<|bQ U U ?_;exact ⟨(i+1,jv1,jl1),lK,⟨rfl,(congrArg (AV.j jl1) (by dsimp only;rw[hps])),trivial⟩,⟨_,(.refl _),(by dsimp only;rw[hps];rfl)⟩,hi5,by dsimp only;omega⟩
   have c18:¬x.op=18:=by simpa using c18
   have hre:gC f p x=(p.1,p.2++[gM p.1 x]):=by unfold gC;rw[if_neg c18]
   refine yd (qe .head)<|zc<|bQ U U ?_;exact ⟨(i+1,jv,jl),lK,⟨rfl,(congrArg (AV.j jl) (by dsimp only;rw[hps,hre])),trivial⟩,⟨_,(.refl _),(by dsimp only;rw[hps,hre])⟩,hi5,by dsimp only;omega⟩
  obtain rfl:i=old.s.length:=by simp at cx;omega
  have hpa:nq f S b old.s.length=dU f S b:=by rw[←hbe];exact Jy f S b
  have hpl:=(B5 f S b old.s.length).trans hSn;have hM:=(hci old.s.length (Nat.le_refl _)).mid hv hwb.1 (by omega) (by omega);have hwe:k8 f W b=⟨(dU f S b).1.v,(dU f S b).1.rts,(dU f S b).1.k,W.ends.set b (dU f S b).1.now,W.blks.set b ⟨old.name,[],(dU f S b).2,f6 (dU f S b).1 old.t⟩⟩:=by unfold k8;rw[hS,hbe];rfl
  rw[hpa] at hpl hM;rw[hpa];obtain ⟨p,hp⟩:∃p,dU f S b=p:=⟨_,rfl⟩;rw[hp] at hpl hM hwe;rw[hp]
  refine yd (aR.know (t:=11) (rows:=p.2.map bu) U .t3 (by intro r hr;obtain ⟨z,_,rfl⟩:=List.mem_map.1 hr;rfl) (by decide) (by rw[w2]))<|zt<|Z<|ao ji U Y7 U U<|X (q8 (c:=.str _) Ym U)<|bj U<|ao ji U Zp U U<|ae Xl Zp U U<|X (y5 (cps:=[(0,[_]),(2,[_]),(3,[_,_,_,_])]) (rs:=[_,.n,_,_,_,_,_]) Oq U U U)<|zp (cs:=[.e,.n,.n,.int .i64 0,.int .i64 0,.int .i64 0,.int .i64 0]) Zh U U<|fun i22=>zi Z1 U U U U U U .head U<|Y<|za<|Z<|ao ji U Zp U U<|ao jj U Y5 U U<|aD Yk U<|aT U U<|Y<|y3 (γ:=Int) [1,2,3,4,5,7,22,51,52,53] (fun u=>[]) (fun u=>[(i22,.cells 59 [.str old.name,.n,.fro 4 (p.2.map bu),.int .i64 old.t.kind,.int .i64 u,.int .i64 old.t.to0,.int .i64 old.t.to1]),(i45,.cells 73 [.fro 2 (f.v.map bO),.fro 1 (f.z.map b7),.fro 7 (f.q.map bK),.j jv p.1.v.length,.fro 1 (f.z.map b7),.j i42 f.q.length,.j jn p.1.now.length,.int .i64 p.1.k]),(jv,.u 2 48 (p.1.v.map bO).flatten),(jn,.u 1 3 (cI p.1.now)),(i42,.u 7 59 (W.blks.map jN).flatten),(i49,.u 1 23 (W.ends.map jO).flatten),(i2,.cells 26 [.n,.n,.n])]) (fun u=>u=(f6 p.1 old.t).var) ?_ (fun _ _ h=>h) ?_
  ·refine zq U (fun ct=>?_) (fun ct=>?_)
   ·have ct:¬old.t.kind=0:=by simpa using ct
    obtain ⟨t0,t1⟩:=hR.inf.t old hbm ct;refine zn (fun j=>Nat.beq j 11) (by kernel_rfl) U (zk (.l (.r (.l (.r (.rest _))))))<|D 0 U (dZ U)<|D 1 U (zr U)<|D 2 U (ze Zk U jh (by decide) U U)<|D 3 U (zj (c:=.j _ _) jy U ⟨_,.head⟩ U)<|D 4 U (dk ji U Zp U U)<|D 5 U (dk jj U j9 U U)<|D 6 U (d9 jg U)<|D 7 U (y7 (j:=old.t.var.toNat) j7 j9 U U (by omega) ⟨_,.t1⟩ (aH _) (by omega))<|D 8 U (yp (j:=old.t.var.toNat) jg U ⟨_,.t1⟩ (Cb t0 (by omega)))<|yo (i:=9) U (by kernel_rfl) (by kernel_rfl) (by kernel_rfl) (by kernel_rfl) (ze ji U Zp (by decide) U U)<|D 10 U (ze jj U j9 (by decide) U U)<|y4<|yg (i:=11) U (by kernel_rfl) (by kernel_rfl)<|yh (l:=[_]) (new:=[_,_,_,_,_,_,_]) j9 U U U U U U .t2 U U<|cC .t6<|cC .t6<|cC .t6<|cC .t4<|cC .t6<|cC .t5<|cC .t6<|Y<|y8 (by kernel_rfl) ?_
    exact ⟨_,(by repeat (first|with_reducible exact yc _ _|refine yk rfl ?_|exact jX)),trivial,aJ,(by unfold f6;rw[if_neg ct])⟩
   have ct:old.t.kind=0:=by simpa using ct
   refine zc ?_;exact ⟨_,(by repeat (first|with_reducible exact yc _ _|refine yk rfl ?_|exact jX)),trivial,aJ,(by unfold f6;rw[if_pos ct])⟩
  rintro u hu;subst hu;have hWs:=JK (l:=W.blks) (b:=b) (by omega) ⟨old.name,[],p.2,f6 p.1 old.t⟩;rw[show jN ⟨old.name,[],p.2,f6 p.1 old.t⟩=[.str old.name,.n,.fro 4 (p.2.map bu),.int .i64 old.t.kind,.int .i64 (f6 p.1 old.t).var,.int .i64 old.t.to0,.int .i64 old.t.to1] by unfold jN f6;split<;>rfl] at hWs
  refine za<|zn (fun j=>Nat.beq j 8) (by kernel_rfl) U (zk (.r (.r (.rest _))))<|D 0 U (dZ U)<|D 1 U (zr U)<|D 2 U (ze Zk U jk (by decide) U U)<|D 3 U (ze jf U Zd (by decide) U U)<|D 4 U (zj (c:=.j _ _) Zf U ⟨_,.t1⟩ U)<|D 5 U (dC U)<|D 6 U (qb Ye Z1 U ⟨_,.head⟩ U)<|bp 7 U<|X (Gv.idxO (j:=b) jr Z1 U U U ⟨_,.t2⟩ (fun h=>by have:=Ca W.blks;rw[h] at this;simp at this;omega) (by omega))<|Y<|y4<|yg (i:=8) U (by kernel_rfl) (by kernel_rfl)<|ax.storeG (l:=[_,_,_,_,_,_,_]) (new:=((W.blks.set b ⟨old.name,[],p.2,f6 p.1 old.t⟩).map jN).flatten) Z1 U U U U U U .t4 (by rw[Ca];show b*7+7≤_;omega) (by decide) hWs<|Y<|y8 (by kernel_rfl) ?_;have hNs:=JL (l:=W.ends) (b:=b) (by omega) p.1.now
  refine yd (aR.knowIC (off:=6) .t3 .t1 U U)<|bZ<|bX U<|C U<|bf U<|aC U<|X (ze Zk U jh (by decide) U U)<|X (zj (c:=.fro _ _) jy U ⟨_,.t1⟩ U)<|X (Gv.idxO (j:=b) Zg jh U U U ⟨_,.t4⟩ (fun h=>by have:=pW W.ends;rw[h] at this;simp at this;omega) (by omega))<|ax.storeGN (new:=((W.ends.set b p.1.now).map jO).flatten) jh U U U U U .t4 (by rw[pW];show b*1<_;omega) hNs<|Y<|yd (qe .head)<|bQ U U ?_;exact ⟨(m+1,jv,.fro 1 (p.1.now.map fun x=>[.int .i64 x])),lI,aN,⟨_,(.refl _),(by dsimp only;rw[hsu,hwe];rfl)⟩,hm2,by dsimp only;omega⟩
 obtain rfl:m=(kr f).length:=by simp at cm;omega
 have hwo:=me hR;have hwb:=Nw hR hv hn hi (Nat.le_refl (kr f).length);have her:=fun b h=>LA hR (b:=b) h;have hig:=pM hR;have hib:(bh f).q.length=f.q.length:=by
  show ((f.q.zip _).map _).length=_;rw[w2,List.length_zip,hwo.bl,Nat.min_self]
 have hiv:(bh f).v=(cg f).v:=rfl;have hip:(bh f).z=f.z:=rfl;rw[yN] at hwb;rw[yN];obtain ⟨W,hW⟩:∃W,cg f=W:=⟨_,rfl⟩;rw[hW] at hwo hwb her hig hiv;rw[hW];have hel:=hwo.el;have hbl:=hwo.bl;refine yd (aR.know (t:=5) (rows:=W.ends.map jO) U .t3 (by intro r hr;obtain ⟨z,_,rfl⟩:=List.mem_map.1 hr;rfl) (by decide) (by rw[w2];exact hel))<|zt<|za<|Z<|ao jf U Zd U U<|aK Zf U<|am jr U<|C U<|Y<|zd<|zu (γ:=Nat) [2,4,5,248,249] (fun k=>[(250,.i k)]) (fun k=>[(i45,.cells 73 [.fro 2 (f.v.map bO),.fro 1 (f.z.map b7),.fro 7 (f.q.map bK),.j jv W.v.length,.fro 1 (f.z.map b7),.j i42 f.q.length,av,.int .i64 W.k]),(jv,.u 2 48 (W.v.map bO).flatten),(i42,.u 7 59 (pX f W.blks k).flatten),(i2,.cells 26 [.n,.n,.n])]) (fun k=>k≤f.q.length) (fun k=>f.q.length - k) 0 aN aJ (qw _) ?_;rintro k hk;refine Z<|aq U U<|Y<|za<|zh U (fun cb=>?_) (fun cb=>?_)
 ·have hk2:k<f.q.length:=by simp at cb;omega
  obtain ⟨b,hb⟩:∃b,f.q[k]?=some b:=⟨_,qt hk2⟩;obtain ⟨c,hc⟩:∃c,W.blks[k]?=some c:=⟨_,qt (by omega)⟩;have hbm:=w5 hb;have hpb:=(hf.2.2.2.2 b hbm).2.1;have hgk:(bh f).q[k]?=some { c with p:=b.p.map (ga W.ends) }:=by rw[hig,hb,hc];rfl
  obtain ⟨P,hP⟩:∃P,(((bh f).q.take k).map bK).flatten=P:=⟨_,rfl⟩;obtain ⟨Zq0,hZ⟩:∃Zq0,((W.blks.drop (k+1)).map jN).flatten=Zq0:=⟨_,rfl⟩;have hPl:P.length=k*7:=by rw[←hP,er (k:=7) (fun _=>rfl),w9];omega
  have hcell:(pX f W.blks k).flatten=P++(([.str c.name,.n,.fro 4 (c.s.map bu),.i c.t.kind,.i c.t.var,.i c.t.to0,.i c.t.to1]:List AV)++Zq0):=by
   rw[←hP,←hZ];exact JN hc
  have hlen:∀r:List AV,r.length=7→(P++(r++Zq0)).length=f.q.length*7:=fun r hr=>by
   rw[←hZ,qz,qz,hPl,hr,er (k:=7) (fun _=>rfl),List.length_drop];omega
  have hne:∀r:List AV,r.length=7→P++(r++Zq0)≠[]:=fun r hr h=>by
   have h2:=hlen r hr;rw[h,List.length_nil] at h2;omega
  have hnext:∀r,r=bK { c with p:=b.p.map (ga W.ends) }→P++(r++Zq0)=(pX f W.blks (k+1)).flatten:=fun r hr=>by
   rw[hr,←hP,←hZ];exact (JO hgk).symm
  rw[hcell]
  refine zc<|za<|zd<|Z<|C U<|X (bD k jr Z1 U U U hb)<|ae Ye Z1 U U<|zp (cs:=[.e,.n,.n,.i 0,.i 0,.i 0,.i 0]) Zh U U<|fun i24=>ap U<|zi Z1 U U U U U U .head U<|y9 (zz (t:=24) U .head)<|Y<|Z<|ao ji U Zv U U<|aK Yf U<|am Z6 U<|C U<|Y<|Gy (off:=k*7+1) (k:=3) (T:=83) (fun _=>.tail .t1) (fun _=>Jp hPl 1 _) (OI hPl 1)<|fun ip=>zd<|zu (γ:=Nat × Nat) [2,4,5,23,248,249,250,256,257] (fun g=>[(258,.i g.1)]) (fun g=>[(g.2,.u 3 83 (((b.p.map (ga W.ends)).take g.1).map dQ).flatten),(i45,.cells 73 [.fro 2 (f.v.map bO),.fro 1 (f.z.map b7),.fro 7 (f.q.map bK),.j jv W.v.length,.fro 1 (f.z.map b7),.j i42 f.q.length,av,.i W.k]),(jv,.u 2 48 (W.v.map bO).flatten),(i42,.u 7 59 (P++(([.str c.name,.j g.2 g.1,.fro 4 (c.s.map bu),.i c.t.kind,.i c.t.var,.i c.t.to0,.i c.t.to1]:List AV)++Zq0))),(i2,.cells 26 [.n,.n,.n])]) (fun g=>g.1≤b.p.length) (fun g=>b.p.length - g.1) (0,ip) aN aJ (qw _) ?_
  rintro ⟨j,ip⟩ hj;try dsimp only at *
  refine Z<|aq U U<|Y<|za<|zh U (fun cj=>?_) (fun cj=>?_)
  ·have hj2:j<b.p.length:=by simp at cj;omega
   obtain ⟨ph,hph⟩:∃ph,b.p[j]?=some ph:=⟨_,qt hj2⟩;have hphm:=w5 hph;obtain ⟨-,hpl,-,hpa,hpf⟩:=hR.run.p b hbm ph hphm;have hal:=((hf.2.2.2.2 b hbm).2.2.2.1 ph hphm).1;have htk:(b.p.map (ga W.ends)).take (j+1)=(b.p.map (ga W.ends)).take j++[ga W.ends ph]:=by rw[List.take_add_one,w3,hph];rfl
   obtain ⟨A,hA⟩:∃A,(ga W.ends ph).args=A:=⟨_,rfl⟩;have hAl:A.length=ph.args.length:=by rw[←hA];show ((ph.args.zip ph.w).map _).length=_;rw[w2,List.length_zip,hpl,Nat.min_self]
   have hAg:∀(q:Nat) (a fr:Int),ph.args[q]?=some a→ph.w[q]?=some fr→A[q]?=some (vi (fq W.ends fr) a):=fun q a fr h1 h2=>by
    rw[←hA];show ((ph.args.zip ph.w).map _)[q]?=_;rw[w3,show (ph.args.zip ph.w)[q]?=some (a,fr) from List.getElem?_zip_eq_some.2 ⟨h1,h2⟩];rfl
   refine zc<|za<|zd<|Z<|X (bD j Z6 Ze U U U hph)<|ae Ys Ze U U<|zp (cs:=[.i 0,.n,.n]) Y0 U U<|fun i26=>zi Ze U U U U U U .head U<|y9 (zz (t:=26) U .head)<|Y<|Z<|ao Z3 U j9 U U<|aD jg U<|ao Z3 U jh U U<|aK jy U<|X (y5 (cps:=[(0,[_]),(2,[_])]) (rs:=[_,.n,_]) Px U U U)<|zp (cs:=[.i 0,.n,.n]) Y0 U U<|fun i27=>zi Ze U U U U U U .head U<|Y<|fY (off:=1) (k:=1) (T:=3) (fun _=>.head) U<|fun jq=>za<|Z<|ao Z3 U jh U U<|aK jy U<|am j7 U<|C U<|Y<|gd .t1<|zd<|zu (γ:=Nat × Nat) [2,4,5,23,26,27,248,249,250,256,257,258,268,269] (fun g=>[(270,.i g.1)]) (fun g=>[(i27,.cells 83 [.i ph.dst,.j g.2 g.1,.fro 1 (ph.w.map b7)]),(g.2,.u 1 3 (cI (A.take g.1))),(ip,.u 3 83 (((b.p.map (ga W.ends)).take j).map dQ).flatten),(i45,.cells 73 [.fro 2 (f.v.map bO),.fro 1 (f.z.map b7),.fro 7 (f.q.map bK),.j jv W.v.length,.fro 1 (f.z.map b7),.j i42 f.q.length,av,.i W.k]),(jv,.u 2 48 (W.v.map bO).flatten),(i42,.u 7 59 (P++(([.str c.name,.j ip j,.fro 4 (c.s.map bu),.i c.t.kind,.i c.t.var,.i c.t.to0,.i c.t.to1]:List AV)++Zq0))),(i2,.cells 26 [.n,.n,.n])]) (fun g=>g.1≤ph.args.length) (fun g=>ph.args.length - g.1) (0,jq) aN aJ (qw _) ?_
   rintro ⟨q,jq⟩ hq;try dsimp only at *
   refine Z<|aq U U<|Y<|za<|zh U (fun cq=>?_) (fun cq=>?_)
   ·have hq2:q<ph.args.length:=by simp at cq;omega
    obtain ⟨a,ha⟩:∃a,ph.args[q]?=some a:=⟨_,qt hq2⟩;obtain ⟨fr,hfr⟩:∃fr,ph.w[q]?=some fr:=⟨_,qt (by omega)⟩;obtain ⟨a1,a0⟩:=bz (List.all_eq_true.1 hpa a (w5 ha));obtain ⟨f0,f1⟩:=JM (List.all_eq_true.1 hpf fr (w5 hfr));obtain ⟨hr1,hr2⟩:=her fr ⟨f0,f1⟩;have hAq:=hAg q a fr ha hfr;have hva:=Cb (l:=fq W.ends fr) a0 (by omega);have htq:A.take (q+1)=A.take q++[vi (fq W.ends fr) a]:=by rw[List.take_add_one,hAq];rfl
    refine zc<|za<|zd<|Z<|C U<|X (bD q j7 j9 U U U ha)<|aD jg U<|ap U<|ap U<|Y<|zn (fun j=>Nat.beq j 16) (by kernel_rfl) U (zk (.r (.l (.l (.r (.rest _))))))<|D 0 U (ze Z3 U jh (by decide) U U)<|D 1 U (zj (c:=.j _ _) jy U ⟨_,.head⟩ U)<|D 2 U (zJ U)<|D 3 U (dk Z3 U jh U U)<|D 4 U (gJ jy U)<|D 5 U (dC U)<|D 6 U (bD q j7 j9 U U U hfr)<|D 7 U (d9 jg U)<|D 8 U (Gv.idxF (j:=fr.toNat) Zg jh U U (by omega) (show (W.ends.map jO)[fr.toNat]?=some (jO (fq W.ends fr)) by rw[w3,hr1];rfl))<|D 9 U (gJ jy U)<|D 10 U (dC U)<|D 11 U (bD a.toNat j7 j9 U U (by omega) hva)<|D 12 U (d9 jg U)<|bp 13 U<|zw (rows:=[[_]]) ed U U U U U<|Y<|bp 14 U<|yb (k:=1) j7 Y6 U U U U U (fun _=>.head) (by rw[aH,w9];omega) (by decide) U (by show (_+1)*8≤_;omega) (by show _+1≤_;omega)<|fun i289=>Y<|D 15 U (ze Z3 U jh (by decide) U U)<|y4<|yg (i:=16) U (by kernel_rfl) (by kernel_rfl)<|yh (l:=[_]) (new:=[_,_,_]) jh U U U U U U .head U U<|cC .t6<|cC .t6<|cC .t6<|cC .t4<|cC .t6<|cC .t6 ?_
    refine cC .t6<|Y<|y8 (by kernel_rfl)<|bQ U U ?_;exact ⟨(q+1,i289),⟨rfl,rfl,rfl,rfl,rfl,rfl,rfl,rfl,rfl,rfl,rfl,rfl,rfl,rfl,trivial⟩,aN,⟨_,(.refl _),(by dsimp only;rw[htq,←lO];rfl)⟩,hq2,by dsimp only;omega⟩
   obtain rfl:q=ph.args.length:=by simp at cq;omega
   rw[show A.take ph.args.length=A from List.take_of_length_le (by omega)];refine yd (aR.knowIC (off:=1) .t1 .head U hAl)<|zt<|y3 (γ:=Nat) [2,4,5,23,248,249,250,256,257,258] (fun u=>[]) (fun u=>[(i27,.cells 83 [.i ph.dst,.fro 1 (A.map b7),.fro 1 (ph.w.map b7)]),(u,.u 3 83 (((b.p.map (ga W.ends)).take (j+1)).map dQ).flatten),(i45,.cells 73 [.fro 2 (f.v.map bO),.fro 1 (f.z.map b7),.fro 7 (f.q.map bK),.j jv W.v.length,.fro 1 (f.z.map b7),.j i42 f.q.length,av,.i W.k]),(jv,.u 2 48 (W.v.map bO).flatten),(i42,.u 7 59 (P++(([.str c.name,.j u (j+1),.fro 4 (c.s.map bu),.i c.t.kind,.i c.t.var,.i c.t.to0,.i c.t.to1]:List AV)++Zq0))),(i2,.cells 26 [.n,.n,.n])]) (fun u=>True) ?_ (fun _ _ h=>h) ?_
   ·refine zn (fun j=>Nat.beq j 20) (by kernel_rfl) U (zk (.r (.l (.r (.rest _)))))<|D 0 U (dZ U)<|D 1 U (zr U)<|D 2 U (ze Zk U jk (by decide) U U)<|D 3 U (ze jf U Zd (by decide) U U)<|D 4 U (zj (c:=.j _ _) Zf U ⟨_,.t1⟩ U)<|D 5 U (dC U)<|D 6 U (dZ U)<|D 7 U (zr U)<|D 8 U (ze Zk U jk (by decide) U U)<|D 9 U (ze jf U Zd (by decide) U U)<|D 10 U (zj (c:=.j _ _) Zf U ⟨_,.t1⟩ U)<|D 11 U (dC U)<|D 15 U (qb Ys Ze U ⟨_,.head⟩ U)<|yq (i:=12) (j:=16) U U (by kernel_rfl) ?_ ?_
    ·refine X (Gv.idxO (j:=k) jr Z1 U U U ⟨_,.t2⟩ (hne _ U) (by omega))<|Y<|D 13 U (ze ji U Zv (by decide) U U)<|yq (i:=14) (j:=16) U U (by kernel_rfl) ?_ ?_
     ·refine X (qq (c:=_) Yf U ⟨_,.t2⟩ (Jo hPl 1))<|Y<|bp 16 U<|zw (rows:=[[_,_,_]]) DE U U U U U<|Y<|bp 17 U<|yb (k:=3) Z6 type83 U U U U U (fun _=>.head) (by rw[er (k:=3) (fun _=>rfl),w9,w2];omega) (by decide) U (by show (_+1)*56≤_;omega) (by show _+1≤_;omega)<|fun i309=>Y<|bp 18 U<|X (Gv.idxO (j:=k) jr Z1 U U U ⟨_,.t2⟩ (hne _ U) (by omega))<|Y<|D 19 U (ze ji U Zv (by decide) U U)<|y4<|yg (i:=20) U (by kernel_rfl) (by kernel_rfl)<|ax.storeGN (new:=P++(([.str c.name,.j i309 (j+1),.fro 4 (c.s.map bu),.int .i64 c.t.kind,.int .i64 c.t.var,.int .i64 c.t.to0,.int .i64 c.t.to1]:List AV)++Zq0)) Zv U U U U U .t4 (by rw[hlen [_,_,_,_,_,_,_] rfl];show k*7+1<_;omega) (Jp hPl 1 _)<|cC .t5<|cC .t5<|cC .t5<|cC .t4<|cC .t5<|cC .t5<|Y<|y8 (by kernel_rfl) ?_
      exact ⟨i309,(by repeat (first|with_reducible exact yc _ _|refine yk rfl ?_|exact jX)),trivial,⟨_,(.refl _),(by rw[htk,←ft (enc:=dQ) rfl,←hA];rfl)⟩,trivial⟩
     refine zw (rows:=[[_,_,_]]) DE U U U U U<|Y<|bp 14 U<|X (qq (c:=_) Yf U ⟨_,.t2⟩ (Jo hPl 1))<|Y<|bp 17 U<|yb (k:=3) Z6 type83 U U U U U (fun _=>.head) (by rw[er (k:=3) (fun _=>rfl),w9,w2];omega) (by decide) U (by show (_+1)*56≤_;omega) (by show _+1≤_;omega)<|fun i309=>Y<|bp 18 U<|X (Gv.idxO (j:=k) jr Z1 U U U ⟨_,.t2⟩ (hne _ U) (by omega))<|Y<|D 19 U (ze ji U Zv (by decide) U U)<|y4<|yg (i:=20) U (by kernel_rfl) (by kernel_rfl)<|ax.storeGN (new:=P++(([.str c.name,.j i309 (j+1),.fro 4 (c.s.map bu),.int .i64 c.t.kind,.int .i64 c.t.var,.int .i64 c.t.to0,.int .i64 c.t.to1]:List AV)++Zq0)) Zv U U U U U .t4 (by rw[hlen [_,_,_,_,_,_,_] rfl];show k*7+1<_;omega) (Jp hPl 1 _)<|cC .t5<|cC .t5<|cC .t5<|cC .t4<|cC .t5<|cC .t5<|Y<|y8 (by kernel_rfl) ?_
     exact ⟨i309,(by repeat (first|with_reducible exact yc _ _|refine yk rfl ?_|exact jX)),trivial,⟨_,(.refl _),(by rw[htk,←ft (enc:=dQ) rfl,←hA];rfl)⟩,trivial⟩
    refine zw (rows:=[[_,_,_]]) DE U U U U U<|Y<|bp 12 U<|X (Gv.idxO (j:=k) jr Z1 U U U ⟨_,.t2⟩ (hne _ U) (by omega))<|Y<|D 13 U (ze ji U Zv (by decide) U U)<|bp 14 U<|X (qq (c:=_) Yf U ⟨_,.t2⟩ (Jo hPl 1))<|Y<|bp 17 U<|yb (k:=3) Z6 type83 U U U U U (fun _=>.head) (by rw[er (k:=3) (fun _=>rfl),w9,w2];omega) (by decide) U (by show (_+1)*56≤_;omega) (by show _+1≤_;omega)<|fun i309=>Y<|bp 18 U<|X (Gv.idxO (j:=k) jr Z1 U U U ⟨_,.t2⟩ (hne _ U) (by omega))<|Y<|D 19 U (ze ji U Zv (by decide) U U)<|y4<|yg (i:=20) U (by kernel_rfl) (by kernel_rfl)<|ax.storeGN (new:=P++(([.str c.name,.j i309 (j+1),.fro 4 (c.s.map bu),.int .i64 c.t.kind,.int .i64 c.t.var,.int .i64 c.t.to0,.int .i64 c.t.to1]:List AV)++Zq0)) Zv U U U U U .t4 (by rw[hlen [_,_,_,_,_,_,_] rfl];show k*7+1<_;omega) (Jp hPl 1 _)<|cC .t5<|cC .t5<|cC .t5<|cC .t4<|cC .t5<|cC .t5<|Y<|y8 (by kernel_rfl) ?_
    exact ⟨i309,(by repeat (first|with_reducible exact yc _ _|refine yk rfl ?_|exact jX)),trivial,⟨_,(.refl _),(by rw[htk,←ft (enc:=dQ) rfl,←hA];rfl)⟩,trivial⟩
   rintro ip _;refine yd (qe .head)<|bQ U U ?_;exact ⟨(j+1,ip),p9,aN,aJ,hj2,by dsimp only;omega⟩
  obtain rfl:j=b.p.length:=by simp at cj;omega
  rw[List.take_of_length_le (by rw[w2];exact Nat.le_refl _)];refine yd (aR.knowG (j:=i42) (off:=k*7+1) (rows:=(b.p.map (ga W.ends)).map dQ) .head .t2 (OI hPl 1) (Jp hPl 1 _) (fun r hr=>by obtain ⟨z,_,rfl⟩:=List.mem_map.1 hr;rfl) (by decide) (by rw[w2,w2]))<|zt<|bQ U U ?_;exact ⟨k+1,lf,aN,⟨_,(.refl _),(by rw[←hnext _ rfl];rfl)⟩,hk2,by omega⟩
 obtain rfl:k=f.q.length:=by simp at cb;omega
 have hall:pX f W.blks f.q.length=(bh f).q.map bK:=by
  unfold pX;rw[List.take_of_length_le (by omega),List.drop_of_length_le (by omega)];simp
 rw[hall];refine yd (aR.knowC (off:=3) (rows:=W.v.map bO) .t1 .head U (by intro r hr;obtain ⟨z,_,rfl⟩:=List.mem_map.1 hr;rfl) (by decide) (by rw[w2]))<|yd (aR.knowC (off:=5) (rows:=(bh f).q.map bK) .t1 .head U (by intro r hr;obtain ⟨z,_,rfl⟩:=List.mem_map.1 hr;rfl) (by decide) (by rw[w2];exact hib))<|zt<|Z<|bf U<|aC U<|X (ze Zk U jk (by decide) U U)<|X (qh (l:=[_,_,_]) Z2 jk U ⟨_,.head⟩ U U)<|zi jk U U U U U U .t1 U<|Y<|zf<|yi U ⟨_,.t1⟩ Z2 jk U ?_;unfold bH;rw[hiv,hip];rfl
end
section
open Go.Proofs.Tryz
def lH (P:Program) (E:World) (l:List Oper) (Q:aU→OL→Prop) (fuel:Nat) (listed:Array Bool) (env:aU) (R Om:OL):Prop:=
 ∀I F ρ w Lr,fy I env ρ→cO I R Lr→iT I Om (Lr++F) E w→dn P l.toArray (eY I.k Lr E) (eY I.k Lr E) (fun _=>false) (dB I F E Q) fuel listed ρ w
section
variable {E:World} {P:Program} {n:Nat} {l:List Oper} {Q:aU→OL→Prop} {fuel:Nat} {listed:Array Bool} {env:aU} {O R Om:OL}
variable {d ty:Nat} {op:Op} {pos:String} {af:Array Edge}
theorem bY.regionDrawR {Q:Exit→aU→OL→Prop} {id:Nat} (hm:P.follows .mixedOrders=true) (hd:ia n l=true) (hO:O.Perm (Om++R)) (h:lH P E l (Q .normal) l.length (Array.replicate l.length false) env R Om):bY P E n (.region id l.toArray true) Q env O:=fun I F ρ w h1 h2=>by
 obtain ⟨Lr,hLr,h3⟩:=h2.split hO;refine WP.regionDraw (eY I.k Lr E) (eY I.k Lr E) (fun _=>false) hm hd fun w' hw=>?_;subst hw;refine h I F ρ _ Lr h1 hLr ?_;obtain ⟨ht,L,hL,hS⟩:=h3;exact ⟨ht,L,hL,hS.drew⟩
theorem lH.takeK {i:Nat} {x:AV} (hi:l[i]?=some (Oper.mk (some d) op ty pos af none)) (hs:Region.noSelect l.toArray=true) (hf:Region.free .any l.toArray listed i=true)
  (hr:(Region.ready .any l.toArray listed).contains i=true) (hg:Gv P env R (Oper.mk (some d) op ty pos af none) x)
  (h:lH P E l Q fuel (listed.setIfInBounds i true) (bB env d x) R Om):lH P E l Q (fuel+1) listed env R Om:=fun I F ρ w Lr h1 hLr h2=>by
 obtain ⟨v,hv,hrun⟩:=hg I Lr E ρ h1 hLr;exact dn.takeK hi hs hf hr rfl h2.here (.inr h2.here) (fun w ⟨J,L',a,b,c⟩=>hrun w J L' a b c) (h I F _ w Lr (h1.upd d hv) hLr h2)
theorem lH.one {i:Nat} {o:Oper} (hi:l[i]?=some o) (hr:Region.ready .any l.toArray listed=[i])
  (h:ax P E l.toArray (fun env' Om'=>lH P E l Q fuel (listed.setIfInBounds i true) env' R Om') [o] env Om):lH P E l Q (fuel+1) listed env R Om:=fun I F ρ w Lr h1 hLr h2=>
 dn.one hi hr (bL.mono (fun ρ' w' ⟨J,env',Om',a,b,c,d⟩=>by
  have hst:eY I.k Lr E w':=by
   obtain ⟨J',L',h3,h4,h5⟩:=c.here;exact ⟨J',L',a.k.trans h3,h4,h5⟩
  refine ⟨⟨hst,.inr hst⟩,dn.mono ?_ ?_ (fun _ _=>dB.up a) _ _ _ _ (d J F ρ' w' Lr b (hLr.mono a) c)⟩
  ·rintro w ⟨J',L',h3,h4⟩;exact ⟨J',L',a.k.trans h3,h4⟩
  rintro w ⟨J',L',h3,h4⟩;exact ⟨J',L',a.k.trans h3,h4⟩) _ _ _ (h I (Lr++F) ρ w h1 h2))
theorem lH.done (hr:Region.ready .any l.toArray listed=[]) (h:Q env (R++Om)):lH P E l Q fuel listed env R Om:=fun I F ρ w Lr h1 hLr h2=>
 dn.done hr ⟨I,env,R++Om,.refl _,h1,iT.together hLr h2,h⟩
end
set_option linter.defProp false
def y6:=@lH.takeK
def qr:=@lH.one
end
end Go.Proofs.YtbbonnfjealmpaaGreatDoor
