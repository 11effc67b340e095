/- The document's typed; the laws' typed, single and plain. Of programs that are little. -/
import Derived.Test.YtbanfokidalbaaaGreatDoorJl
import Derived.Test.YtbanfokidalbaaaGreatDoorJd
set_option linter.unusedVariables false
set_option linter.unusedSimpArgs false
set_option linter.unusedSectionVars false
namespace Go.Proofs.YtbanfokidalbaaaGreatDoor
section
open Go.Proofs.Tryz
open Go.Proofs Go.Lib Go.Shelf Go.RowKit
variable {E:World}
set_option maxRecDepth 20000
set_option maxHeartbeats 4000000 in
theorem mK (f:ad) (hf:small f) (v:Nat):aJ prog E 49 [.agg (bL f),.int .i64 v] (.tup [.int .i64 (aB f v).1,.int .i64 (aB f v).2]):=by
 have hn:=hf.2.2.1
 refine zo func49 Z (by decide) Z<|ah<|yb (cs:=_) Z Z Z<|ay Z<|ay Z<|z6<|zc<|ah<|ae je Z Ze Z Z<|aI Zl Z<|ak jk Z<|aa Z<|z6<|zh<|ya (γ:=Nat) [1,13,14] (fun k=>[(15,.int .i64 k)]) (fun k=>[]) (fun k=>k≤f.blocks.length∧kU v (dy f k)=0) (fun k=>f.blocks.length - k) 0 aG aC (⟨qt _,Z⟩) ?_
 rintro k ⟨hk,hc⟩
 refine ah<|aw Z Z<|z6<|zc<|zp Z (fun ck=>?_) (fun ck=>?_)
 ·have hk2:k<f.blocks.length:=by simp at ck;omega
  obtain ⟨b,hbk⟩:∃b,f.blocks[k]=b:=⟨_,rfl⟩
  have hget:f.blocks[k]?=some b:=by rw[qq hk2,hbk]
  have hmem:b∈f.blocks:=hbk▸qu hk2
  obtain ⟨hb0,hb1,hb2,hb3,hb4⟩:=hf.2.2.2.2 b hmem
  refine zd<|zc<|zh<|ah<|aa Z<|za (bD k jk jv Z Z Z hget)<|ab Yk jv Z Z<|zy (cs:=[.str ⟨#[]⟩,.raw (.slice none 0 0),.raw (.slice none 0 0),.int .i64 0,.int .i64 0,.int .i64 0,.int .i64 0]) Zn Z Z<|fun i7=>ay Z<|zq jv Z Z Z Z Z Z .head Z<|zf (yd (t:=7) Z .head)<|z6<|zc<|ah<|ae jl Z Yh Z Z<|aI Yt Z<|ak Z2 Z<|aa Z<|z6<|zh<|ya (γ:=Nat) [1,6,7,13,14,15,21,22] (fun j=>[(23,.int .i64 j)]) (fun j=>[]) (fun j=>j≤b.phis.length∧kU v (dy f k++dE k (b.phis.take j))=0) (fun j=>b.phis.length - j) 0 aG aC (⟨qt _,by rw[show dE k (b.phis.take 0)=[] from rfl,w5];exact hc⟩) ?_
  rintro j ⟨hj,hcj⟩
  refine ah<|aw Z Z<|z6<|zc<|zp Z (fun cj=>?_) (fun cj=>?_)
  ·have hj2:j<b.phis.length:=by simp at cj;omega
   have hpre:=HZ hk2 hbk hj2
   have hsc:=lK v (dy f k++dE k (b.phis.take j)) b.phis[j].dst ((k:Int),(-1:Int))
   rw[qs,←lI k hj2] at hsc
   refine zd<|zc<|zh<|ah<|za (bD j Z2 jz Z Z Z (qq hj2))<|ab Yl jz Z Z<|zy (cs:=[.int .i64 0,.raw (.slice none 0 0),.raw (.slice none 0 0)]) Zb Z Z<|fun i9=>zq jz Z Z Z Z Z Z .head Z<|zf (yd (t:=9) Z .head)<|z6<|ah<|ae jt Z ja Z Z<|ax jc Z<|aa Z<|aj Z Z<|z6<|zt Z (fun cd=>?_) (fun cd=>?_)
   ·have hd:b.phis[j].dst=(v:Int):=by simpa using cd
    rw[hd] at hpre
    refine ah<|aa Z<|ay Z<|ay Z<|z6<|zg<|qb (x:=.int _ _) (y:=.int _ _) Z Z ?_
    rw[tr hpre hcj]
   ·have hd:¬b.phis[j].dst=(v:Int):=by simpa using cd
    refine zd<|aM<|aA Z Z<|aa Z<|z6 ?_
    exact ⟨j+1,vP,aG,aC,⟨hj2,by rw[hsc,if_neg hd,hcj]⟩,by omega⟩
  ·have hjn:j=b.phis.length:=by simp at cj;omega
   subst hjn
   rw[qv] at hcj
   refine y9<|ah<|ae jl Z Y8 Z Z<|aI Yi Z<|ak jx Z<|aa Z<|z6<|zh<|ya (γ:=Nat) [1,6,13,14,15,34,35] (fun j=>[(36,.int .i64 j)]) (fun j=>[]) (fun j=>j≤b.insts.length∧kU v (dy f k++dE k b.phis++gB k (b.insts.take j))=0) (fun j=>b.insts.length - j) 0 aG aC (⟨qt _,by rw[show gB k (b.insts.take 0)=[] from rfl,w5];exact hcj⟩) ?_
   rintro j ⟨hj,hci⟩
   refine ah<|aw Z Z<|z6<|zc<|zp Z (fun cj=>?_) (fun cj=>?_)
   ·have hj2:j<b.insts.length:=by simp at cj;omega
    have hev:=jQ k hj2
    refine zd<|zc<|zh<|ah<|aa Z<|za (bD j jx Z9 Z Z Z (qq hj2))<|ab Ye Z9 Z Z<|zy (cs:=[.int .i64 0,.int .i64 0,.raw (.slice none 0 0),.int .i64 0]) Yf Z Z<|fun i11=>ay Z<|zq Z9 Z Z Z Z Z Z .head Z<|zf (yd (t:=11) Z .head)<|z6<|ah<|ae j8 Z ja Z Z<|ax jc Z<|aa Z<|aj Z Z<|z6<|zt Z (fun cd=>?_) (fun cd=>?_)
    ·have hd:b.insts[j].dst=(v:Int):=by simpa using cd
     have hpre:=Fd hk2 hbk hj2 (by omega)
     rw[hd] at hpre
     refine ah<|aa Z<|aa Z<|ay Z<|ay Z<|z6<|zg<|qb (x:=.int _ _) (y:=.int _ _) Z Z ?_
     rw[tr hpre hci]
    ·have hd:¬b.insts[j].dst=(v:Int):=by simpa using cd
     have hsc:kU v (dy f k++dE k b.phis++gB k (b.insts.take (j+1)))=0:=by
      rw[hev]
      split
      ·rw[←qs,lK,if_neg hd,hci]
      ·rw[w5];exact hci
     refine zd<|aM<|aA Z Z<|aa Z<|z6 ?_
     exact ⟨j+1,km,aG,aC,⟨hj2,hsc⟩,by omega⟩
   ·have hjn:j=b.insts.length:=by simp at cj;omega
    subst hjn
    rw[qv] at hci
    refine y9<|aM<|aA Z Z<|aa Z<|z6 ?_
    exact ⟨k+1,dC,aG,aC,⟨hk2,by rw[gc hk2,hbk,p9,←qs];exact hci⟩,by omega⟩
 ·have hkn:k=f.blocks.length:=by simp at ck;omega
  subst hkn
  refine y9<|ah<|ay Z<|ay Z<|z6<|zg<|qb (x:=.int _ _) (y:=.int _ _) Z Z ?_
  rw[zR hc]
set_option maxHeartbeats 4000000 in
theorem pd (f:ad) (hf:small f) (v:Nat):aJ prog E 47 [.agg (bL f),.int .i64 v] (.int .i64 (bm f v).length):=by
 have hn:=hf.2.2.1
 refine zo func47 Z (by decide) Z<|ah<|yb (cs:=_) Z Z Z<|ay Z<|z6<|ah<|ay Z<|z6<|zc<|ah<|ae je Z Ze Z Z<|aI Zl Z<|ak jk Z<|aa Z<|z6<|zh<|ya (γ:=Nat) [1,13,14] (fun k=>[(15,.int .i64 k),(5,.int .i64 (kU v (dy f k)))]) (fun k=>[]) (fun k=>k≤f.blocks.length) (fun k=>f.blocks.length - k) 0 di aC (qt _) ?_
 rintro k hk
 refine ah<|aw Z Z<|z6<|zc<|zp Z (fun ck=>?_) (fun ck=>?_)
 ·have hk2:k<f.blocks.length:=by simp at ck;omega
  obtain ⟨b,hbk⟩:∃b,f.blocks[k]=b:=⟨_,rfl⟩
  have hget:f.blocks[k]?=some b:=by rw[qq hk2,hbk]
  have hmem:b∈f.blocks:=hbk▸qu hk2
  obtain ⟨hb0,hb1,hb2,hb3,hb4⟩:=hf.2.2.2.2 b hmem
  have hel:=hf.evs hk
  refine zd<|zc<|zh<|ah<|za (bD k jk jv Z Z Z hget)<|ab Yk jv Z Z<|zy (cs:=[.str ⟨#[]⟩,.raw (.slice none 0 0),.raw (.slice none 0 0),.int .i64 0,.int .i64 0,.int .i64 0,.int .i64 0]) Zn Z Z<|fun i7=>zq jv Z Z Z Z Z Z .head Z<|zf (yd (t:=7) Z .head)<|z6<|zc<|ah<|ae jl Z Yh Z Z<|aI Yt Z<|ak Z2 Z<|aa Z<|z6<|zh<|ya (γ:=Nat) [1,7,13,14,15,20,21] (fun j=>[(22,.int .i64 j),(5,.int .i64 (kU v (dy f k++dE k (b.phis.take j))))]) (fun j=>[]) (fun j=>j≤b.phis.length) (fun j=>b.phis.length - j) 0 ⟨Z,(by rw[show dE k (b.phis.take 0)=[] from rfl,w5];rfl),trivial⟩ aC (qt _) ?_
  rintro j hj
  refine ah<|aw Z Z<|z6<|zc<|zp Z (fun cj=>?_) (fun cj=>?_)
  ·have hj2:j<b.phis.length:=by simp at cj;omega
   have hsc:=lK v (dy f k++dE k (b.phis.take j)) b.phis[j].dst ((k:Int),(-1:Int))
   rw[qs,←lI k hj2] at hsc
   have hcl:kU v (dy f k++dE k (b.phis.take j))≤2001000:=by
    have h1:=Bm v (dy f k++dE k (b.phis.take j))
    have h2:(dE k (b.phis.take j)).length≤1000:=by unfold dE;rw[qx,w6];omega
    rw[qw] at h1;omega
   refine zd<|zc<|zh<|ah<|za (bD j Z2 jz Z Z Z (qq hj2))<|ab Yl jz Z Z<|zy (cs:=[.int .i64 0,.raw (.slice none 0 0),.raw (.slice none 0 0)]) Zb Z Z<|fun i9=>zq jz Z Z Z Z Z Z .head Z<|zf (yd (t:=9) Z .head)<|z6<|ah<|ae jt Z ja Z Z<|ax jc Z<|aa Z<|aj Z Z<|z6<|zt Z (fun cd=>?_) (fun cd=>?_)
   ·have hd:b.phis[j].dst=(v:Int):=by simpa using cd
    rw[if_pos hd] at hsc
    refine aM<|aa Z<|aA Z Z<|ay Z<|z6<|aM<|aA Z Z<|aa Z<|z6 ?_
    exact ⟨j+1,km,⟨rfl,(by rw[hsc];rfl),trivial⟩,aC,hj2,by omega⟩
   ·have hd:¬b.phis[j].dst=(v:Int):=by simpa using cd
    rw[if_neg hd] at hsc
    refine zd<|aM<|aA Z Z<|aa Z<|z6 ?_
    exact ⟨j+1,km,⟨rfl,(by rw[hsc];rfl),trivial⟩,aC,hj2,by omega⟩
  ·have hjn:j=b.phis.length:=by simp at cj;omega
   subst hjn
   rw[qv]
   refine y9<|ah<|ae jl Z Y8 Z Z<|aI Yi Z<|ak jx Z<|aa Z<|z6<|zh<|ya (γ:=Nat) [1,13,14,15,34,35] (fun j=>[(36,.int .i64 j),(5,.int .i64 (kU v (dy f k++dE k b.phis++gB k (b.insts.take j))))]) (fun j=>[]) (fun j=>j≤b.insts.length) (fun j=>b.insts.length - j) 0 ⟨Z,(by rw[show gB k (b.insts.take 0)=[] from rfl,w5];rfl),trivial⟩ aC (qt _) ?_
   rintro j hj
   refine ah<|aw Z Z<|z6<|zc<|zp Z (fun cj=>?_) (fun cj=>?_)
   ·have hj2:j<b.insts.length:=by simp at cj;omega
    have hcl:kU v (dy f k++dE k b.phis++gB k (b.insts.take j))≤2002000:=by
     have h1:=Bm v (dy f k++dE k b.phis++gB k (b.insts.take j))
     have h2:(dE k b.phis).length≤1000:=by unfold dE;rw[qx];omega
     have h3:=qB k (b.insts.take j)
     rw[w6] at h3
     rw[qw,qw] at h1;omega
    have hsc:kU v (dy f k++dE k b.phis++gB k (b.insts.take (j+1)))=kU v (dy f k++dE k b.phis++gB k (b.insts.take j))+if b.insts[j].dst=(v:Int) then 1 else 0:=by
     rw[jQ k hj2]
     split
     ·rw[←qs,lK]
     ·rw[w5,if_neg (by omega)];rfl
    refine zd<|zc<|zh<|ah<|za (bD j jx Z9 Z Z Z (qq hj2))<|ab Ye Z9 Z Z<|zy (cs:=[.int .i64 0,.int .i64 0,.raw (.slice none 0 0),.int .i64 0]) Yf Z Z<|fun i11=>zq Z9 Z Z Z Z Z Z .head Z<|zf (yd (t:=11) Z .head)<|z6<|ah<|ae j8 Z ja Z Z<|ax jc Z<|aa Z<|aj Z Z<|z6<|zt Z (fun cd=>?_) (fun cd=>?_)
    ·have hd:b.insts[j].dst=(v:Int):=by simpa using cd
     rw[if_pos hd] at hsc
     refine aM<|aa Z<|aA Z Z<|ay Z<|z6<|aM<|aA Z Z<|aa Z<|z6 ?_
     exact ⟨j+1,pt,⟨rfl,(by rw[hsc];rfl),trivial⟩,aC,hj2,by omega⟩
    ·have hd:¬b.insts[j].dst=(v:Int):=by simpa using cd
     rw[if_neg hd] at hsc
     refine zd<|aM<|aA Z Z<|aa Z<|z6 ?_
     exact ⟨j+1,pt,⟨rfl,(by rw[hsc];rfl),trivial⟩,aC,hj2,by omega⟩
   ·have hjn:j=b.insts.length:=by simp at cj;omega
    subst hjn
    rw[qv]
    refine y9<|aM<|aA Z Z<|aa Z<|z6 ?_
    exact ⟨k+1,dC,⟨rfl,(by rw[gc hk2,hbk,p9,←qs];rfl),trivial⟩,aC,hk2,by omega⟩
 ·have hkn:k=f.blocks.length:=by simp at ck;omega
  subst hkn
  refine y9<|ah<|aa Z<|ay Z<|z6<|zg<|zk (x:=.int _ _) Z ?_
  rw[vQ]
theorem sQ (f:ad) (hE:bF f) (hf:small f) (v:Nat) (b a:Int) (h0:0≤b) (hb:b<f.blocks.length):aJ prog E 48 [.agg (bL f),.int .i64 v,.int .i64 b,.int .i64 a] (.bool (ep f (aB f v) b a)):=by
 have hn:=hf.2.2.1
 refine zo func48 Z (by decide) Z<|ah<|yb (cs:=_) Z Z Z<|ac Z<|z6<|ah<|ab jm jh Z Z<|aa Z<|ze (mK f hf v) Z<|za (m6 Z)<|za (mq Z Z)<|za (mq Z Z)<|ay Z<|ay Z<|z6<|zc<|zh<|ah<|aa Z<|aw Z Z<|ac Z<|z6<|zp Z (fun c0=>?_) (fun c0=>?_)
 ·refine ah<|ac Z<|z6<|zg<|zk (x:=.bool _) Z ?_
  rw[ep,if_pos c0]
 ·refine ah<|aa Z<|aa Z<|aj Z Z<|ac Z<|z6<|zt Z (fun c1=>?_) (fun c1=>?_)
  ·have d1:(aB f v).1=b:=by simpa using c1
   refine ah<|aa Z<|aa Z<|aw Z Z<|ac Z<|z6<|zg<|zk (x:=.bool _) Z ?_
   rw[ep,if_neg c0,if_pos d1]
  ·have d1:¬(aB f v).1=b:=by simpa using c1
   have hg:=kp (E:=ao f) (n:=f.blocks.length) (k:=b.toNat) (shut:=(aB f v).1) (by omega)
   rw[show ((b.toNat:Nat):Int)=b by omega] at hg
   refine zd<|ah<|ab jm jh Z Z<|aa Z<|ze (gV f hE hn (aB f v).1) Z<|aa Z<|za (bD b.toNat Za Z5 Z Z (by omega) hg)<|za (yo (c:=.bool _) Zm Z)<|aF Z<|ac Z<|z6<|zg<|zk (x:=.bool _) Z ?_
   rw[ep,if_neg c0,if_neg d1]
end
section
open Go.Proofs.Tryz
open Go.Proofs Go.Lib Go.Shelf Go.RowKit
variable {E:World}
set_option maxRecDepth 20000
theorem BQ {f:ad} (hE:bF f) (i:Nat) (p:cS):HK f i p=true↔Bl f i p.from_:=by
 unfold HK
 rw[wc,nR,De hE]
theorem Aq {l:List Int} (hn:l.Nodup) {i:Int} (h:i∈l):(l.filter fun c=>decide (c=i))=[i]:=by
 induction l with
 |nil=>cases h
 |cons c l ih=>
  obtain ⟨h1,h2⟩:=List.nodup_cons.1 hn
  by_cases e:c=i
  ·subst e
   have:(l.filter fun x=>decide (x=c))=[]:=List.filter_eq_nil_iff.2 fun x hx=>by
    simp only[wc];rintro rfl;exact h1 hx
   simp[this]
  ·rw[List.filter_cons_of_neg (by simpa using e)]
   rcases List.mem_cons.1 h with h3|h3
   ·exact absurd h3.symm e
   ·exact ih h2 h3
theorem Ar {f:ad} (k:Nat) (i:Int):(bv (ao f) (k+1) i).length=(bv (ao f) k i).length+if i∈ao f k then 1 else 0:=by
 rw[ln,qw,qx]
 have hn:=ki f k
 congr 1
 by_cases h:i∈ao f k
 ·rw[if_pos h]
  have h1:=Aq hn h
  rw[h1];rfl
 ·rw[if_neg h]
  have h1:((ao f k).filter fun c=>decide (c=i))=[]:=List.filter_eq_nil_iff.2 fun c hc=>by
   simp only[wc];rintro rfl;exact h hc
  rw[h1];rfl
set_option maxHeartbeats 4000000 in
theorem rE (f:ad) (hE:bF f) (hf:small f) (hS:bx f):aJ prog E 45 [.agg (bL f)] (.bool (db f)):=by
 have hn:=hf.2.2.1
 refine zo func45 Z (by decide) Z<|ah<|yb (cs:=_) Z Z Z<|ac Z<|z6<|zc<|ah<|ae je Z Ze Z Z<|aI Zl Z<|ak jk Z<|aa Z<|z6<|zh<|ya (γ:=Nat) [1,13,14] (fun i=>[(15,.int .i64 i)]) (fun i=>[]) (fun i=>i≤f.blocks.length∧(List.range i).all (E6 f)=true) (fun i=>f.blocks.length - i) 0 aG aC (⟨qt _,Z⟩) ?_
 rintro i ⟨hi,hall⟩
 refine ah<|aw Z Z<|z6<|zc<|zp Z (fun ci=>?_) (fun ci=>?_)
 ·have hi2:i<f.blocks.length:=by simp at ci;omega
  obtain ⟨b,hbi⟩:∃b,f.blocks[i]=b:=⟨_,rfl⟩
  have hget:f.blocks[i]?=some b:=by rw[qq hi2,hbi]
  have hmem:b∈f.blocks:=hbi▸qu hi2
  obtain ⟨hb0,hb1,hb2,hb3,hb4⟩:=hf.2.2.2.2 b hmem
  have hPh:=(hS.2.2.2.2.2 b hmem).1
  refine zd<|zc<|zh<|ah<|aa Z<|za (bD i jk jv Z Z Z hget)<|ab Yk jv Z Z<|zy (cs:=[.str ⟨#[]⟩,.raw (.slice none 0 0),.raw (.slice none 0 0),.int .i64 0,.int .i64 0,.int .i64 0,.int .i64 0]) Zn Z Z<|fun i4=>ay Z<|zq jv Z Z Z Z Z Z .head Z<|zf (yd (t:=4) Z .head)<|z6<|ah<|ae jl Z Yh Z Z<|aI Yt Z<|ak Z2 Z<|aa Z<|z6<|zh<|ya (γ:=Nat) [1,3,13,14,15,21,22] (fun j=>[(23,.int .i64 j)]) (fun j=>[]) (fun j=>j≤b.phis.length∧(b.phis.take j).all (HK f i)=true) (fun j=>b.phis.length - j) 0 aG aC (⟨qt _,Z⟩) ?_
  rintro j ⟨hj,hjall⟩
  refine ah<|aw Z Z<|z6<|zc<|zp Z (fun cj=>?_) (fun cj=>?_)
  ·have hj2:j<b.phis.length:=by simp at cj;omega
   obtain ⟨p,hp⟩:∃p,b.phis[j]=p:=⟨_,rfl⟩
   have hpm:p∈b.phis:=hp▸qu hj2
   have hpl:=(hb3 p hpm).2
   have hpr:∀c∈p.from_,0≤c∧c<f.blocks.length:=fun c hc=>by have:=List.all_eq_true.1 (hPh p hpm).2.2.2.2 c hc;simpa [eZ] using this
   have hbad:¬Bl f i p.from_→db f=false:=fun h=>dN hi2 (by rw[lG hget];exact Bool.eq_false_iff.2 (dD hj2 (by rw[hp];exact Bool.eq_false_iff.2 fun h2=>h ((BQ hE i p).1 h2))))
   refine zd<|zc<|zh<|ah<|za (bD j Z2 jz Z Z Z (by rw[qq hj2,hp])) ?_
   refine ab Yl jz Z Z<|zy (cs:=[.int .i64 0,.raw (.slice none 0 0),.raw (.slice none 0 0)]) Zb Z Z<|fun i6=>zq jz Z Z Z Z Z Z .head Z<|zf (yd (t:=6) Z .head)<|z6<|ah<|ay Z<|z6<|zc<|ah<|ae je Z Ze Z Z<|aI Zl Z<|ak jk Z<|aa Z<|z6<|zh<|ya (γ:=Nat) [1,3,6,13,14,15,21,22,23,29] (fun a=>[(30,.int .i64 a),(7,.int .i64 (bv (ao f) a i).length)]) (fun a=>[]) (fun a=>a≤f.blocks.length) (fun a=>f.blocks.length - a) 0 di aC (qt _) ?_
   rintro a ha
   refine ah<|aw Z Z<|z6<|zc<|zp Z (fun ca=>?_) (fun ca=>?_)
   ·have ha2:a<f.blocks.length:=by simp at ca;omega
    have hone:=Ar (f:=f) a i
    have hle:=iD f i a
    refine zd<|zc<|zh<|ah<|aa Z<|ay Z<|z6<|ah<|ab jm jh Z Z<|aa Z<|aa Z<|ze (mJ f hn (a:Int) (i:Int) (by omega) (by omega)) Z<|z6<|zt Z (fun cl=>?_) (fun cl=>?_)
    ·have hl:(i:Int)∈ao f a:=by simpa using cl
     rw[if_pos hl] at hone
     refine aM<|aa Z<|aA Z Z<|ay Z<|z6<|aM<|aA Z Z<|aa Z<|z6 ?_
     exact ⟨a+1,iy,⟨rfl,(by rw[hone];rfl),trivial⟩,aC,ha2,by omega⟩
    ·have hl:¬(i:Int)∈ao f a:=by simpa using cl
     rw[if_neg hl] at hone
     refine zd<|aM<|aA Z Z<|aa Z<|z6 ?_
     exact ⟨a+1,iy,⟨rfl,(by rw[hone];rfl),trivial⟩,aC,ha2,by omega⟩
   ·have han:a=f.blocks.length:=by simp at ca;omega
    subst han
    refine y9<|zc<|ah<|aa Z<|ae jt Z jg Z Z<|aI jn Z<|ak j9 Z<|aH Z Z<|z6<|zt Z (fun cn=>?_) (fun cn=>?_)
    ·have hne:¬(bv (ao f) f.blocks.length i).length=p.from_.length:=by have h0:¬((bv (ao f) f.blocks.length i).length:Int)=(p.from_.length:Int):=(by simpa using cn);omega
     refine ah<|ac Z<|z6<|zg<|zk (x:=.bool _) Z ?_
     rw[hbad fun h=>hne h.1]
    ·have hne:(bv (ao f) f.blocks.length i).length=p.from_.length:=by have h0:((bv (ao f) f.blocks.length i).length:Int)=(p.from_.length:Int):=(by simpa using cn);omega
     refine zd<|ah<|ae jt Z jg Z Z<|aI jn Z<|ak j9 Z<|aa Z<|z6<|zh<|ya (γ:=Nat) [1,3,6,13,14,15,21,22,23,46,47] (fun k=>[(48,.int .i64 k)]) (fun k=>[]) (fun k=>k≤p.from_.length∧∀q (h:q<p.from_.length),q<k→(i:Int)∈ao f p.from_[q]∧p.from_[q] ∉ p.from_.take q) (fun k=>p.from_.length - k) 0 aG aC (⟨qt _,fun q h h2=>by omega⟩) ?_
     rintro k ⟨hk,hok⟩
     refine ah<|aw Z Z<|z6<|zc<|zp Z (fun ck=>?_) (fun ck=>?_)
     ·have hk2:k<p.from_.length:=by simp at ck;omega
      obtain ⟨c,hc⟩:∃c,p.from_[k]=c:=⟨_,rfl⟩
      obtain ⟨hc0,hcn⟩:=hpr c (hc▸qu hk2)
      refine zd<|zc<|zh<|ah<|aa Z<|za (bD k j9 ja Z Z Z (by rw[qq hk2,hc])) ?_
      refine ax jc Z<|ay Z<|ay Z<|z6<|zc<|ah<|ab jm jh Z Z<|aa Z<|aa Z<|ze (mJ f hn c (i:Int) hc0 hcn) Z<|aF Z<|z6<|zt Z (fun cl=>?_) (fun cl=>?_)
      ·have hl:¬(i:Int)∈ao f c:=by simpa using cl
       refine ah<|ac Z<|z6<|zg<|zk (x:=.bool _) Z ?_
       rw[hbad fun h=>hl (hc▸(h.2 k hk2).1)]
      ·have hl:(i:Int)∈ao f c:=by simpa using cl
       refine zd<|ah<|aa Z<|aa Z<|z6<|zh<|ya (γ:=Nat) [1,3,6,10,13,14,15,21,22,23,46,47,48,58] (fun q=>[(59,.int .i64 q)]) (fun q=>[]) (fun q=>q≤k∧c ∉ p.from_.take q) (fun q=>k - q) 0 aG aC (⟨qt _,by simp⟩) ?_
       rintro q ⟨hq,hqn⟩
       refine ah<|aw Z Z<|z6<|zc<|zp Z (fun cq=>?_) (fun cq=>?_)
       ·have hq2:q<k:=by omega
        have hq3:q<p.from_.length:=by omega
        refine zd<|zc<|zh<|ah<|aa Z<|ay Z<|z6<|ah<|ae jt Z jg Z Z<|aI jn Z<|aa Z<|za (bD q j9 ja Z Z Z (qq hq3))<|ax jc Z<|aa Z<|aj Z Z<|z6<|zt Z (fun ce=>?_) (fun ce=>?_)
        ·have he:p.from_[q]=c:=by simpa using ce
         have hin:c∈p.from_.take k:=by rw[←he];exact List.mem_take_iff_getElem.2 ⟨q,by omega,rfl⟩
         refine ah<|ac Z<|z6<|zg<|zk (x:=.bool _) Z ?_
         rw[hbad fun h=>(h.2 k hk2).2 (by rw[hc];exact hin)]
        ·have he:¬p.from_[q]=c:=by simpa using ce
         refine zd<|aM<|aA Z Z<|aa Z<|z6 ?_
         exact ⟨q+1,⟨rfl,rfl,rfl,rfl,rfl,rfl,rfl,rfl,rfl,rfl,rfl,rfl,rfl,rfl,trivial⟩,aG,aC,⟨hq2,fun hm=>by rw[qr hq3] at hm;rcases List.mem_append.1 hm with h1|h1;exact hqn h1;simp at h1;exact he h1.symm⟩,by omega⟩
       ·have hqn2:q=k:=by omega
        subst hqn2
        refine y9<|aM<|aA Z Z<|aa Z<|z6 ?_
        exact ⟨q+1,la,aG,aC,⟨hk2,fun r hr h2=>by rcases Nat.lt_succ_iff_lt_or_eq.1 h2 with h3|h3;exact hok r hr h3;subst h3;rw[hc];exact ⟨hl,hqn⟩⟩,by omega⟩
     ·have hkn:k=p.from_.length:=by simp at ck;omega
      subst hkn
      refine y9<|aM<|aA Z Z<|aa Z<|z6 ?_
      exact ⟨j+1,km,aG,aC,⟨hj2,bZ hj2 hjall (by rw[hp];exact (BQ hE i p).2 ⟨hne,fun q hq=>hok q hq hq⟩)⟩,by omega⟩
  ·have hjn:j=b.phis.length:=by simp at cj;omega
   subst hjn
   rw[qv] at hjall
   refine y9<|aM<|aA Z Z<|aa Z<|z6 ?_
   exact ⟨i+1,dC,aG,aC,⟨hi2,cQ hall (by rw[lG hget];exact hjall)⟩,by omega⟩
 ·have hin:i=f.blocks.length:=by simp at ci;omega
  subst hin
  refine y9<|ah<|ac Z<|z6<|zg<|zk (x:=.bool _) Z ?_
  rw[show db f=true from hall]
end
section
open Go.Proofs.Tryz
open Go.Proofs Go.Lib Go.Shelf Go.RowKit
variable {E:World}
set_option maxRecDepth 20000
theorem Gf {f:ad} {v:Int} (h:bz f v=true):∃k:Nat,v=(k:Int)∧k<f.vars.length:=by
 have h1:0≤v∧v<f.vars.length:=by simpa [bz] using h
 exact ⟨v.toNat,by omega,by omega⟩
theorem iH (f:ad) (hE:bF f) (hf:small f) {v:Int} (hv:bz f v=true) (b a:Int) (h0:0≤b) (hb:b<f.blocks.length):aJ prog E 48 [.agg (bL f),.int .i64 v,.int .i64 b,.int .i64 a] (.bool (ep f (aB f v) b a)):=by
 obtain ⟨k,rfl,hk⟩:=Gf hv
 exact sQ f hE hf k b a h0 hb
theorem pz {f:ad} {i:Nat} {b:bc} (hi:i<f.blocks.length) (hg:f.blocks[i]?=some b) (h:oU f i b=false):kL f=false:=by
 unfold kL;rw[dN hi (by rw[nS hg];exact h)];simp
set_option maxHeartbeats 8000000 in
theorem rF (f:ad) (hE:bF f) (hf:small f) (hS:bx f):aJ prog E 23 [.agg (bL f)] (.bool (kL f)):=by
 have hn:=hf.2.2.1
 have hv:=hf.1
 have hG:=hE.grph
 refine zo func23 Z (by decide) Z<|ah<|yb (cs:=_) Z Z Z<|ac Z<|z6<|zc<|ah<|ab jm jh Z Z<|ze (rE f hE hf hS) Z<|aF Z<|z6<|zt Z (fun cj=>?_) (fun cj=>?_)
 ·have dj:db f=false:=by simpa using cj
  refine ah<|ac Z<|z6<|zg<|zk (x:=.bool _) Z ?_
  rw[show kL f=false by unfold kL;rw[dj];rfl]
 ·have dj:db f=true:=by simpa using cj
  refine zd<|ah<|ab jm jh Z Z<|ze (gV f hE hn (-1)) Z<|za (iw Z)<|z6<|zc<|ah<|ae je Z Zg Z Z<|aI Zp Z<|ak js Z<|aa Z<|z6<|zh<|ya (γ:=Nat) [1,3,23] (fun v=>[(24,.int .i64 v)]) (fun v=>[]) (fun v=>v≤f.vars.length∧(List.range v).all (jR f)=true) (fun v=>f.vars.length - v) 0 aG aC (⟨qt _,Z⟩) ?_
  rintro v ⟨hvl,hall⟩
  refine ah<|aw Z Z<|z6<|zc<|zp Z (fun cv=>?_) (fun cv=>?_)
  ·have hv2:v<f.vars.length:=by simp at cv;omega
   have hbad:jR f v=false→kL f=false:=fun h=>by unfold kL;rw[show l4 f=false from dN hv2 h];simp
   refine zd<|zc<|zh<|ah<|aa Z<|ay Z<|z6<|ah<|ab jm jh Z Z<|aa Z<|ze (pd f hf v) Z<|ay Z<|z6<|ah<|aa Z<|aO Z Z<|ai Z<|zm (s:=32) Z (fun c1=>?_) (fun c1=>?_)
   ·have d1:1<(bm f v).length:=by have h0:(1:Int)<((bm f v).length:Int):=(by simpa using c1);omega
    refine z7 Z Z c1<|z7 Z Z c1<|z7 Z Z c1<|zb Z Z<|zb Z Z<|zb Z Z<|zb Z Z<|zb Z Z<|z7 Z Z c1<|ap Z c1 Z<|z6<|yt Z Z<|ah<|ac Z<|z6<|zg<|zk (x:=.bool _) Z ?_
    rw[hbad (by unfold jR;simp[d1])]
   ·have d1:¬1<(bm f v).length:=by have h0:¬(1:Int)<((bm f v).length:Int):=(by simpa using c1);omega
    refine z8 Z Z c1<|aa Z<|z8 Z Z c1<|aO Z Z<|z8 Z Z c1<|ai Z<|zm (s:=35) Z (fun c2=>?_) (fun c2=>?_)
    ·have d2:0<(bm f v).length:=by have h0:(0:Int)<((bm f v).length:Int):=(by simpa using c2);omega
     refine z8 Z Z c2<|aa Z<|z8 Z Z c2<|ae je Z jg Z Z<|z8 Z Z c2<|aI jn Z<|z8 Z Z c2<|ak j9 Z<|z8 Z Z c2<|aw Z Z<|z8 Z Z c1<|ap Z c2 Z<|aq Z c1 Z<|z6<|zt Z (fun c3=>?_) (fun c3=>?_)
     ·have d3:v<f.params.length:=by simpa using c3
      refine ah<|ac Z<|z6<|zg<|zk (x:=.bool _) Z ?_
      rw[hbad (by unfold jR;rw[w7 d2,w7 d3];simp)]
     ·have d3:¬v<f.params.length:=by simpa using c3
      refine zd<|aM<|aA Z Z<|aa Z<|z6 ?_
      exact ⟨v+1,dC,aG,aC,⟨hv2,cQ hall (by unfold jR;rw[w8 d1,w8 d3];simp)⟩,by omega⟩
    ·have d2:¬0<(bm f v).length:=by have h0:¬(0:Int)<((bm f v).length:Int):=(by simpa using c2);omega
     refine z7 Z Z c2<|z7 Z Z c2<|z7 Z Z c2<|z7 Z Z c2<|z7 Z Z c2<|z8 Z Z c1<|aq Z c2 Z<|aq Z c1 Z<|z6<|yj Z Z<|zd<|aM<|aA Z Z<|aa Z<|z6 ?_
     exact ⟨v+1,dC,aG,aC,⟨hv2,cQ hall (by unfold jR;rw[w8 d1,w8 d2];rfl)⟩,by omega⟩
  ·have hvn:v=f.vars.length:=by simp at cv;omega
   subst hvn
   have donce:l4 f=true:=hall
   refine y9<|zc<|ah<|ae je Z Ze Z Z<|aI Zl Z<|ak jk Z<|aa Z<|z6<|zh<|ya (γ:=Nat) [1,3,45,46] (fun i=>[(47,.int .i64 i)]) (fun i=>[]) (fun i=>i≤f.blocks.length∧(List.range i).all (Lp f)=true) (fun i=>f.blocks.length - i) 0 aG aC (⟨qt _,Z⟩) ?_
   rintro i ⟨hi,hiall⟩
   refine ah<|aw Z Z<|z6<|zc<|zp Z (fun ci=>?_) (fun ci=>?_)
   ·have hi2:i<f.blocks.length:=by simp at ci;omega
    obtain ⟨b,hbi⟩:∃b,f.blocks[i]=b:=⟨_,rfl⟩
    have hget:f.blocks[i]?=some b:=by rw[qq hi2,hbi]
    have hmem:b∈f.blocks:=hbi▸qu hi2
    obtain ⟨hb0,hb1,hb2,hb3,hb4⟩:=hf.2.2.2.2 b hmem
    obtain ⟨hPh,hIn,hTm⟩:=hS.2.2.2.2.2 b hmem
    have hth:=kp (E:=ao f) (shut:=-1) hi2
    refine zd<|zc<|zh<|ah<|aa Z<|za (bD i jk jv Z Z Z hget)<|ab Yk jv Z Z<|zy (cs:=[.str ⟨#[]⟩,.raw (.slice none 0 0),.raw (.slice none 0 0),.int .i64 0,.int .i64 0,.int .i64 0,.int .i64 0]) Zn Z Z<|fun i7=>ay Z<|zq jv Z Z Z Z Z Z .head Z<|zf (yd (t:=7) Z .head)<|z6<|zc<|ah<|aU Z<|aa Z<|za (bD i Za Z5 Z Z Z hth)<|za (yo (c:=.bool _) Zm Z)<|aF Z<|z6<|zt Z (fun cr=>?_) (fun cr=>?_)
    ·have dr:¬sZ (ao f) (i:Int):=fun h=>by simp at cr;exact cr ((Bk hG).2 h)
     refine ah<|ac Z<|z6<|zg<|zk (x:=.bool _) Z ?_
     rw[pz hi2 hget (by unfold oU;simp[dr])]
    ·have dr:sZ (ao f) (i:Int):=by simp at cr;exact (Bk hG).1 cr
     refine zd<|zc<|ah<|ae jl Z Yh Z Z<|aI Yt Z<|ak Z2 Z<|aa Z<|z6<|zh<|ya (γ:=Nat) [1,3,6,7,45,46,47,58,59] (fun j=>[(60,.int .i64 j)]) (fun j=>[]) (fun j=>j≤b.phis.length∧(b.phis.take j).all (Lm f)=true) (fun j=>b.phis.length - j) 0 aG aC (⟨qt _,Z⟩) ?_
     rintro j ⟨hj,hjall⟩
     refine ah<|aw Z Z<|z6<|zc<|zp Z (fun cjj=>?_) (fun cjj=>?_)
     ·have hj2:j<b.phis.length:=by simp at cjj;omega
      obtain ⟨p,hp⟩:∃p,b.phis[j]=p:=⟨_,rfl⟩
      have hpm:p∈b.phis:=hp▸qu hj2
      obtain ⟨hpd,hpl,hpn,hpa,hpf⟩:=hPh p hpm
      have hpb:=hb3 p hpm
      refine zd<|zc<|zh<|ah<|za (bD j Z2 jz Z Z Z (by rw[qq hj2,hp])) ?_
      refine ab Yl jz Z Z<|zy (cs:=[.int .i64 0,.raw (.slice none 0 0),.raw (.slice none 0 0)]) Zb Z Z<|fun i9=>zq jz Z Z Z Z Z Z .head Z<|zf (yd (t:=9) Z .head)<|z6<|ah<|ae jt Z jg Z Z<|aI jn Z<|ak j9 Z<|aa Z<|z6<|zh<|ya (γ:=Nat) [1,3,6,7,9,45,46,47,58,59,60,65,66] (fun k=>[(67,.int .i64 k)]) (fun k=>[]) (fun k=>k≤p.args.length∧((p.args.zip p.from_).take k).all (fun q=>ep f (aB f q.1) q.2 (jO f q.2))=true) (fun k=>p.args.length - k) 0 aG aC (⟨qt _,Z⟩) ?_
      rintro k ⟨hk,hkall⟩
      refine ah<|aw Z Z<|z6<|zc<|zp Z (fun ck=>?_) (fun ck=>?_)
      ·have hk2:k<p.args.length:=by simp at ck;omega
       have hk3:k<p.from_.length:=by omega
       obtain ⟨v,hv⟩:∃v,p.args[k]=v:=⟨_,rfl⟩
       obtain ⟨c,hc⟩:∃c,p.from_[k]=c:=⟨_,rfl⟩
       have hvv:=List.all_eq_true.1 hpa v (hv▸qu hk2)
       have hcr:0≤c∧c<f.blocks.length:=by have:=List.all_eq_true.1 hpf c (hc▸qu hk3);simpa [eZ] using this
       obtain ⟨d,hd⟩:∃d,f.blocks[c.toNat]'(by omega)=d:=⟨_,rfl⟩
       have hdg:f.blocks[c.toNat]?=some d:=by rw[qq (by omega),hd]
       have hla:jO f c=d.insts.length:=by unfold jO;rw[hdg];rfl
       have hz:k<(p.args.zip p.from_).length:=by rw[List.length_zip];omega
       have hzk:(p.args.zip p.from_)[k]=(v,c):=by rw[List.getElem_zip,hv,hc]
       refine zd<|zc<|zh<|ah<|aa Z<|za (bD k j9 ja Z Z Z (by rw[qq hk2,hv])) ?_
       refine ax jc Z<|ay Z<|ay Z<|z6<|zc<|y7 (fun j=>false) (by kernel_rfl) Z (zn (.rest _))<|au 0 Z (yk jm jh Z Z)<|au 1 Z (cG Z)<|au 2 Z (cA jt Z jg Z Z)<|au 3 Z (iS jn Z)<|au 4 Z (cG Z)<|au 5 Z (bD k j9 ja Z Z Z (by rw[qq hk3,hc])) ?_
       refine au 6 Z (du jc Z)<|au 7 Z (cA je Z Ze Z Z)<|au 8 Z (iS Zl Z)<|au 9 Z (cA jt Z jg Z Z)<|au 10 Z (iS jn Z)<|au 11 Z (cG Z)<|au 12 Z (bD k j9 ja Z Z Z (by rw[qq hk3,hc])) ?_
       refine au 13 Z (du jc Z)<|au 14 Z (bD c.toNat jk jv Z Z (by omega) hdg)<|au 15 Z (cA jl Z Y8 Z Z)<|au 16 Z (iS Yi Z)<|au 17 Z (Gv.lenM jx Z)<|aV 18 Z<|ze (iH f hE hf hvv c d.insts.length hcr.1 hcr.2) Z<|z6<|au 19 Z (Gv.not Z)<|bY<|zt Z (fun cq=>?_) (fun cq=>?_)
       ·have hq:ep f (aB f v) c (jO f c)=false:=by rw[hla];simpa using cq
        refine ah<|ac Z<|z6<|zg<|zk (x:=.bool _) Z ?_
        rw[pz hi2 hget (by unfold oU;rw[show b.phis.all (Lm f)=false from Bool.eq_false_iff.2 (dD hj2 (by rw[hp];unfold Lm;exact Bool.eq_false_iff.2 (dD hz (by rw[hzk];exact hq))))];simp)]
       ·have hq:ep f (aB f v) c (jO f c)=true:=by rw[hla];simpa using cq
        refine zd<|aM<|aA Z Z<|aa Z<|z6 ?_
        exact ⟨k+1,sI,aG,aC,⟨hk2,bZ hz hkall (by rw[hzk];exact hq)⟩,by omega⟩
      ·have hkn:k=p.args.length:=by simp at ck;omega
       have hzl:(p.args.zip p.from_).length=p.args.length:=by rw[List.length_zip];omega
       rw[hkn,←hzl,qv] at hkall
       refine y9<|aM<|aA Z Z<|aa Z<|z6 ?_
       exact ⟨j+1,nK,aG,aC,⟨hj2,bZ hj2 hjall (by rw[hp];exact hkall)⟩,by omega⟩
     ·have hjn:j=b.phis.length:=by simp at cjj;omega
      subst hjn
      rw[qv] at hjall
      refine y9<|zc<|ah<|ae jl Z Y8 Z Z<|aI Yi Z<|ak jx Z<|aa Z<|z6<|zh<|ya (γ:=Nat) [1,3,6,7,45,46,47,95,96] (fun k=>[(97,.int .i64 k)]) (fun k=>[]) (fun k=>k≤b.insts.length∧((b.insts.zipIdx).take k).all (Ln f i)=true) (fun k=>b.insts.length - k) 0 aG aC (⟨qt _,Z⟩) ?_
      rintro k ⟨hk,hkall⟩
      refine ah<|aw Z Z<|z6<|zc<|zp Z (fun ck=>?_) (fun ck=>?_)
      ·have hk2:k<b.insts.length:=by simp at ck;omega
       obtain ⟨z,hzk⟩:∃z,b.insts[k]=z:=⟨_,rfl⟩
       have hzm:z∈b.insts:=hzk▸qu hk2
       have hI:=fk (hIn z hzm)
       have hzl:=hb4 z hzm
       have hzi:k<b.insts.zipIdx.length:=by simp;exact hk2
       have hze:b.insts.zipIdx[k]=(z,k):=by simp[hzk]
       refine zd<|zc<|zh<|ah<|aa Z<|za (bD k jx Z9 Z Z Z (by rw[qq hk2,hzk])) ?_
       refine ab Ye Z9 Z Z<|zy (cs:=[.int .i64 0,.int .i64 0,.raw (.slice none 0 0),.int .i64 0]) Yf Z Z<|fun i13=>ay Z<|zq Z9 Z Z Z Z Z Z .head Z<|zf (yd (t:=13) Z .head)<|z6<|ah<|ae j8 Z jg Z Z<|aI jn Z<|ak j9 Z<|aa Z<|z6<|zh<|ya (γ:=Nat) [1,3,6,7,12,45,46,47,95,96,97,103,104] (fun m=>[(105,.int .i64 m)]) (fun m=>[]) (fun m=>m≤z.args.length∧(z.args.take m).all (fun v=>ep f (aB f v) i k)=true) (fun m=>z.args.length - m) 0 aG aC (⟨qt _,Z⟩) ?_
       rintro m ⟨hm,hmall⟩
       refine ah<|aw Z Z<|z6<|zc<|zp Z (fun cm=>?_) (fun cm=>?_)
       ·have hm2:m<z.args.length:=by simp at cm;omega
        obtain ⟨v,hv⟩:∃v,z.args[m]=v:=⟨_,rfl⟩
        have hvv:=hI.args v (hv▸qu hm2)
        refine zd<|zc<|zh<|ah<|za (bD m j9 ja Z Z Z (by rw[qq hm2,hv])) ?_
        refine ax jc Z<|ay Z<|z6<|ah<|ab jm jh Z Z<|aa Z<|aa Z<|aa Z<|ze (iH f hE hf hvv (i:Int) (k:Int) (by omega) (by omega)) Z<|aF Z<|z6<|zt Z (fun cq=>?_) (fun cq=>?_)
        ·have hq:ep f (aB f v) i k=false:=by simpa using cq
         refine ah<|ac Z<|z6<|zg<|zk (x:=.bool _) Z ?_
         rw[pz hi2 hget (by unfold oU;rw[show b.insts.zipIdx.all (Ln f i)=false from Bool.eq_false_iff.2 (dD hzi (by rw[hze];unfold Ln;exact Bool.eq_false_iff.2 (dD hm2 (by rw[hv];exact hq))))];simp)]
        ·have hq:ep f (aB f v) i k=true:=by simpa using cq
         refine zd<|aM<|aA Z Z<|aa Z<|z6 ?_
         exact ⟨m+1,sI,aG,aC,⟨hm2,bZ hm2 hmall (by rw[hv];exact hq)⟩,by omega⟩
       ·have hmn:m=z.args.length:=by simp at cm;omega
        rw[hmn,qv] at hmall
        refine y9<|aM<|aA Z Z<|aa Z<|z6 ?_
        exact ⟨k+1,nK,aG,aC,⟨hk2,bZ hzi hkall (by rw[hze];exact hmall)⟩,by omega⟩
      ·have hkn:k=b.insts.length:=by simp at ck;omega
       rw[hkn,show b.insts.length=b.insts.zipIdx.length by simp,qv] at hkall
       refine y9<|ah<|ae jl Z Ya Z Z<|ae jj Z Yg Z Z<|ax Ys Z<|aH Z Z<|ai Z<|zm (s:=121) Z (fun c0=>?_) (fun c0=>?_)
       ·have d0:¬b.term.kind=0:=by simpa using c0
        refine z8 Z Z c0<|ab jm jh Z Z<|z8 Z Z c0<|ae jl Z Ya Z Z<|z8 Z Z c0<|ae jj Z ja Z Z<|z8 Z Z c0<|ax jc Z<|z8 Z Z c0<|aa Z<|z8 Z Z c0<|ae jl Z Y8 Z Z<|z8 Z Z c0<|aI Yi Z<|z8 Z Z c0<|ak jx Z<|z8 Z Z c0<|ze (iH f hE hf (jV hTm d0) (i:Int) (b.insts.length:Int) (by omega) (by omega)) Z<|z8 Z Z c0<|aF Z<|ap Z c0 Z<|z6<|zt Z (fun cq=>?_) (fun cq=>?_)
        ·have hq:ep f (aB f b.term.var) i b.insts.length=false:=by simpa using cq
         refine ah<|ac Z<|z6<|zg<|zk (x:=.bool _) Z ?_
         rw[pz hi2 hget (by unfold oU Lo;rw[hq,w8 d0];simp)]
        ·have hq:ep f (aB f b.term.var) i b.insts.length=true:=by simpa using cq
         refine zd<|aM<|aA Z Z<|aa Z<|z6 ?_
         exact ⟨i+1,e7,aG,aC,⟨hi2,cQ hiall (by rw[nS hget];unfold oU Lo;rw[hjall,hkall,hq];simp[dr])⟩,by omega⟩
       ·have d0:b.term.kind=0:=by simpa using c0
        refine z7 Z Z c0<|z7 Z Z c0<|z7 Z Z c0<|z7 Z Z c0<|z7 Z Z c0<|z7 Z Z c0<|z7 Z Z c0<|z7 Z Z c0<|z7 Z Z c0<|z7 Z Z c0<|aq Z c0 Z<|z6<|yj Z Z<|zd<|aM<|aA Z Z<|aa Z<|z6 ?_
        exact ⟨i+1,e7,aG,aC,⟨hi2,cQ hiall (by rw[nS hget];unfold oU Lo;rw[hjall,hkall,d0];simp[dr])⟩,by omega⟩
   ·have hin:i=f.blocks.length:=by simp at ci;omega
    subst hin
    refine y9<|ah<|ac Z<|z6<|zg<|zk (x:=.bool _) Z ?_
    rw[show kL f=true by unfold kL;rw[dj,donce,hiall];rfl]
end
section
open Go.Proofs.Tryz
open Go.Proofs Go.Lib Go.Shelf Go.RowKit
variable {E:World}
set_option maxRecDepth 20000
theorem fO (f:ad) (v:Int) (hv:bz f v=true):aJ prog E 126 [.agg (bL f),.int .i64 v] (.int .i64 (bJ f v)):=by
 obtain ⟨x,hx,hv2,hk⟩:=wg hv
 rw[hk]
 refine zo func126 Z (by decide) Z<|ah<|yb (cs:=_) Z Z Z<|ay Z<|z6<|ah<|ae je Z Zg Z Z<|aI Zp Z<|aa Z<|za (bD v.toNat js Zx Z Z hv2 hx)<|ae Zd Z Yj Z Z<|ax Yv Z<|ay Z<|z6<|zg<|zk (x:=.int _ _) Z ?_
 rfl
theorem rG (c:Int):aJ prog E 128 [.int .u8 c] (.int .i64 (d6 c)):=by
 refine zo func128 Z (by decide) Z<|ah<|ay Z<|z6<|zc<|ah<|aa Z<|z6<|zh<|ah<|aj Z Z<|ac Z<|z6<|zt Z (fun c1=>?_) (fun c1=>?_)
 ·refine ah<|ay Z<|z6<|zg<|zk (x:=.int _ _) Z ?_
  unfold d6;simp_all
 ·refine ah<|aj Z Z<|ac Z<|z6<|zt Z (fun c2=>?_) (fun c2=>?_)
  ·refine ah<|ay Z<|z6<|zg<|zk (x:=.int _ _) Z ?_
   unfold d6;simp_all
  ·refine zd<|ah<|ay Z<|z6<|zg<|zk (x:=.int _ _) Z ?_
   unfold d6;simp_all
theorem DV:∀j:Nat,j<27→decide ((b9 (j:Int)).1=⟨#[99,111,112,121]⟩)=decide (j=1):=by decide
theorem pA {op:Int} (h:0≤op∧op≤26):((b9 op).1=⟨#[99,111,112,121]⟩)↔op=1:=by
 have h1:=DV op.toNat (by omega)
 rw[wa h.1] at h1
 constructor
 ·intro e
  have:decide (op.toNat=1)=true:=by rw[←h1];exact w7 e
  have:=wb this
  omega
 ·intro e
  have h2:op.toNat=1:=by omega
  have:decide ((b9 op).1=⟨#[99,111,112,121]⟩)=true:=by rw[h1];exact w7 h2
  exact wb this
theorem wK {op:Int} (h:0≤op∧op≤26):gz[op.toNat]?=some (b9 op):=by
 unfold b9
 have hl:op.toNat<gz.length:=by have:gz.length=27:=rfl;omega
 rw[if_pos h.1,qq hl];rfl
def gR (f:ad) (x:aN):List Int:=if x.op=1 then[bJ f x.dst] else bq x.op
theorem DW {f:ad} {x:aN} (h:tJ f x):x.args.length=(gR f x).length:=by
 rw[h.len]
 unfold gR
 split
 ·rename_i e;rw[e];rfl
 ·rfl
theorem rH {f:ad} {x:aN} (h:tJ f x):iC f x=(decide (x.args.map (bJ f)=gR f x)&&(!eK x.op||(decide (x.op=1)||decide (bJ f x.dst=mm x.op)))):=by
 unfold iC gR
 by_cases e:x.op=1
 ·have hl:=h.len
  rw[e,show (bq 1).length=1 from rfl] at hl
  obtain ⟨a,ha⟩:=List.length_eq_one_iff.1 hl
  rw[if_pos e,if_pos e,ha]
  simp[e]
  exact eq_comm
 ·rw[if_neg e,if_neg e];simp[e]
theorem As {op:Int} {m:Nat} (h:m<(bq op).length):∃c:UInt8,(b9 op).2.1.data[m]?=some c∧(bq op)[m]=d6 (c.toNat:Int):=by
 have h1:m<(b9 op).2.1.data.size:=by rw[ob] at h;exact h
 have e:(bq op)[m]?=((b9 op).2.1.data.toList[m]?).map fun b=>d6 b.toNat:=by unfold bq;rw[qy]
 rw[qq h,Array.getElem?_toList,Array.getElem?_eq_getElem h1] at e
 exact ⟨(b9 op).2.1.data[m],by rw[Array.getElem?_eq_getElem h1],by simpa using e⟩
theorem Au {op:Int} (h:¬(b9 op).2.2=⟨#[]⟩):∃c:UInt8,(b9 op).2.2.data[0]?=some c∧mm op=d6 (c.toNat:Int):=by
 unfold mm
 generalize (b9 op).2.2=m at h ⊢
 obtain ⟨⟨l⟩⟩:=m
 cases l with
 |nil=>exact absurd rfl h
 |cons c l=>exact ⟨c,by simp,rfl⟩
end
end Go.Proofs.YtbanfokidalbaaaGreatDoor
