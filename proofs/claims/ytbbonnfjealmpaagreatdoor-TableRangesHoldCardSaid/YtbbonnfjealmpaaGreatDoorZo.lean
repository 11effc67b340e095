/- The document's typed; the laws' typed, single and plain. Of programs that are little. -/
import Derived.Test.YtbbonnfjealmpaaGreatDoorZn
set_option linter.unusedVariables false
set_option linter.unusedSimpArgs false
set_option linter.unusedSectionVars false
namespace Go.Proofs.YtbbonnfjealmpaaGreatDoor
section
open Go.Proofs.Tryz
open Go.Proofs Go.Lib Go.Shelf Go.RowKit
variable {E:World}
set_option maxRecDepth 20000
theorem Fv {f:ab} {v:Int} (h:bt f v=true):∃k:Nat,v=(k:Int)∧k<f.vars.length:=by
 have h1:0≤v∧v<f.vars.length:=by simpa [bt] using h
 exact ⟨v.toNat,by omega,by omega⟩
theorem jB (f:ab) (hE:cg f) (hf:small f) {v:Int} (hv:bt f v=true) (b a:Int) (h0:0≤b) (hb:b<f.blocks.length):aP prog E 87 [.agg (bw f),.int .i64 v,.int .i64 b,.int .i64 a] (.bool (eZ f (aD f v) b a)):=by
 obtain ⟨k,rfl,hk⟩:=Fv hv
 exact tH f hE hf k b a h0 hb
theorem qD {f:ab} {i:Nat} {b:aK} (hi:i<f.blocks.length) (hg:f.blocks[i]?=some b) (h:pS f i b=false):kr f=false:=by
 unfold kr;rw[dL hi (by rw[oP hg];exact h)];simp
set_option maxHeartbeats 8000000 in
theorem r9 (f:ab) (hE:cg f) (hf:small f) (hS:bH f):aP prog E 46 [.agg (bw f)] (.bool (kr f)):=by
 have hn:=hf.2.2.1
 have hv:=hf.1
 have hG:=hE.grph
 refine zp func46 U (by decide) U<|ae<|y6 (cs:=_) U U U<|ad U<|z2<|zb<|ae<|ac Z0 ji U U<|ze (rZ f hE hf hS) U<|aJ U<|z2<|zw U (fun cj=>?_) (fun cj=>?_)
 ·have dj:dy f=false:=by simpa using cj
  refine ae<|ad U<|z2<|zg<|zm (x:=.bool _) U ?_
  rw[show kr f=false by unfold kr;rw[dj];rfl]
 ·have dj:dy f=true:=by simpa using cj
  refine zf<|ae<|ac Z0 ji U U<|ze (iD f hE hn (-1)) U<|z8 (oA U)<|z2<|zb<|ae<|ak je U Zn U U<|aI Zz U<|aj Z7 U<|aa U<|z2<|zi<|y5 (γ:=Nat) [1,3,23] (fun v=>[(24,.i v)]) (fun v=>[]) (fun v=>v≤f.vars.length∧(List.range v).all (kq f)=true) (fun v=>f.vars.length - v) 0 aL aE (⟨w2 _,U⟩) ?_
  rintro v ⟨hvl,hall⟩
  refine ae<|ap U U<|z2<|zb<|zn U (fun cv=>?_) (fun cv=>?_)
  ·have hv2:v<f.vars.length:=by simp at cv;omega
   have hbad:kq f v=false→kr f=false:=fun h=>by unfold kr;rw[show mR f=false from dL hv2 h];simp
   refine zf<|zb<|zi<|ae<|aa U<|am U<|z2<|ae<|ac Z0 ji U U<|aa U<|ze (pT f hf v) U<|am U<|z2<|ae<|aa U<|be U U<|aq U<|zt (s:=32) U (fun c1=>?_) (fun c1=>?_)
   ·have d1:1<(bp f v).length:=by have h0:(1:Int)<((bp f v).length:Int):=(by simpa using c1);omega
    refine z6 U U c1<|z6 U U c1<|z6 U U c1<|zk U U<|zk U U<|zk U U<|zk U U<|zk U U<|z6 U U c1<|au U c1 U<|z2<|yr U U<|ae<|ad U<|z2<|zg<|zm (x:=.bool _) U ?_
    rw[hbad (by unfold kq;simp[d1])]
   ·have d1:¬1<(bp f v).length:=by have h0:¬(1:Int)<((bp f v).length:Int):=(by simpa using c1);omega
    refine z7 U U c1<|aa U<|z7 U U c1<|be U U<|z7 U U c1<|aq U<|zt (s:=35) U (fun c2=>?_) (fun c2=>?_)
    ·have d2:0<(bp f v).length:=by have h0:(0:Int)<((bp f v).length:Int):=(by simpa using c2);omega
     refine z7 U U c2<|aa U<|z7 U U c2<|ak je U jh U U<|z7 U U c2<|aI jx U<|z7 U U c2<|aj j7 U<|z7 U U c2<|ap U U<|z7 U U c1<|au U c2 U<|aw U c1 U<|z2<|zw U (fun c3=>?_) (fun c3=>?_)
     ·have d3:v<f.params.length:=by simpa using c3
      refine ae<|ad U<|z2<|zg<|zm (x:=.bool _) U ?_
      rw[hbad (by unfold kq;rw[we d2,we d3];simp)]
     ·have d3:¬v<f.params.length:=by simpa using c3
      refine zf<|aW<|aC U U<|aa U<|z2 ?_
      exact ⟨v+1,bW,aL,aE,⟨hv2,cL hall (by unfold kq;rw[wg d1,wg d3];simp)⟩,by omega⟩
    ·have d2:¬0<(bp f v).length:=by have h0:¬(0:Int)<((bp f v).length:Int):=(by simpa using c2);omega
     refine z6 U U c2<|z6 U U c2<|z6 U U c2<|z6 U U c2<|z6 U U c2<|z7 U U c1<|aw U c2 U<|aw U c1 U<|z2<|yq U U<|zf<|aW<|aC U U<|aa U<|z2 ?_
     exact ⟨v+1,bW,aL,aE,⟨hv2,cL hall (by unfold kq;rw[wg d1,wg d2];rfl)⟩,by omega⟩
  ·have hvn:v=f.vars.length:=by simp at cv;omega
   subst hvn
   have donce:mR f=true:=hall
   refine y4<|zb<|ae<|ak je U Zd U U<|aI Zf U<|aj ju U<|aa U<|z2<|zi<|y5 (γ:=Nat) [1,3,45,46] (fun i=>[(47,.i i)]) (fun i=>[]) (fun i=>i≤f.blocks.length∧(List.range i).all (KL f)=true) (fun i=>f.blocks.length - i) 0 aL aE (⟨w2 _,U⟩) ?_
   rintro i ⟨hi,hiall⟩
   refine ae<|ap U U<|z2<|zb<|zn U (fun ci=>?_) (fun ci=>?_)
   ·have hi2:i<f.blocks.length:=by simp at ci;omega
    obtain ⟨b,hbi⟩:∃b,f.blocks[i]=b:=⟨_,rfl⟩
    have hget:f.blocks[i]?=some b:=by rw[qx hi2,hbi]
    have hmem:b∈f.blocks:=hbi▸w3 hi2
    obtain ⟨hb0,hb1,hb2,hb3,hb4⟩:=hf.2.2.2.2 b hmem
    obtain ⟨hPh,hIn,hTm⟩:=hS.2.2.2.2.2 b hmem
    have hth:=kU (E:=ah f) (shut:=-1) hi2
    refine zf<|zb<|zi<|ae<|aa U<|z8 (bB i ju Z2 U U U hget)<|ac Yc Z2 U U<|zu (cs:=[.e,.n,.n,.int .i64 0,.int .i64 0,.int .i64 0,.int .i64 0]) Zh U U<|fun i7=>am U<|zj Z2 U U U U U U .head U<|zd (y8 (t:=7) U .head)<|z2<|zb<|ae<|bd U<|aa U<|z8 (bB i jw Zb U U U hth)<|z8 (qe (c:=.bool _) Yn U)<|aJ U<|z2<|zw U (fun cr=>?_) (fun cr=>?_)
    ·have dr:¬nD (ah f) (i:Int):=fun h=>by simp at cr;exact cr ((BW hG).2 h)
     refine ae<|ad U<|z2<|zg<|zm (x:=.bool _) U ?_
     rw[qD hi2 hget (by unfold pS;simp[dr])]
    ·have dr:nD (ah f) (i:Int):=by simp at cr;exact (BW hG).1 cr
     refine zf<|zb<|ae<|ak jr U Zv U U<|aI Yd U<|aj Z8 U<|aa U<|z2<|zi<|y5 (γ:=Nat) [1,3,6,7,45,46,47,58,59] (fun j=>[(60,.i j)]) (fun j=>[]) (fun j=>j≤b.phis.length∧(b.phis.take j).all (KI f)=true) (fun j=>b.phis.length - j) 0 aL aE (⟨w2 _,U⟩) ?_
     rintro j ⟨hj,hjall⟩
     refine ae<|ap U U<|z2<|zb<|zn U (fun cjj=>?_) (fun cjj=>?_)
     ·have hj2:j<b.phis.length:=by simp at cjj;omega
      obtain ⟨p,hp⟩:∃p,b.phis[j]=p:=⟨_,rfl⟩
      have hpm:p∈b.phis:=hp▸w3 hj2
      obtain ⟨hpd,hpl,hpn,hpa,hpf⟩:=hPh p hpm
      have hpb:=hb3 p hpm
      refine zf<|zb<|zi<|ae<|z8 (bB j Z8 Ze U U U (by rw[qx hj2,hp])) ?_
      refine ac Ys Ze U U<|zu (cs:=[.int .i64 0,.n,.n]) Y1 U U<|fun i9=>zj Ze U U U U U U .head U<|zd (y8 (t:=9) U .head)<|z2<|ae<|ak Z4 U jh U U<|aI jx U<|aj j7 U<|aa U<|z2<|zi<|y5 (γ:=Nat) [1,3,6,7,9,45,46,47,58,59,60,65,66] (fun k=>[(67,.i k)]) (fun k=>[]) (fun k=>k≤p.args.length∧((p.args.zip p.from_).take k).all (fun q=>eZ f (aD f q.1) q.2 (fA f q.2))=true) (fun k=>p.args.length - k) 0 aL aE (⟨w2 _,U⟩) ?_
      rintro k ⟨hk,hkall⟩
      refine ae<|ap U U<|z2<|zb<|zn U (fun ck=>?_) (fun ck=>?_)
      ·have hk2:k<p.args.length:=by simp at ck;omega
       have hk3:k<p.from_.length:=by omega
       obtain ⟨v,hv⟩:∃v,p.args[k]=v:=⟨_,rfl⟩
       obtain ⟨c,hc⟩:∃c,p.from_[k]=c:=⟨_,rfl⟩
       have hvv:=List.all_eq_true.1 hpa v (hv▸w3 hk2)
       have hcr:0≤c∧c<f.blocks.length:=by have:=List.all_eq_true.1 hpf c (hc▸w3 hk3);simpa [eX] using this
       obtain ⟨d,hd⟩:∃d,f.blocks[c.toNat]'(by omega)=d:=⟨_,rfl⟩
       have hdg:f.blocks[c.toNat]?=some d:=by rw[qx (by omega),hd]
       have hla:fA f c=d.insts.length:=by unfold fA;rw[hdg];rfl
       have hz:k<(p.args.zip p.from_).length:=by rw[List.length_zip];omega
       have hzk:(p.args.zip p.from_)[k]=(v,c):=by rw[List.getElem_zip,hv,hc]
       refine zf<|zb<|zi<|ae<|aa U<|z8 (bB k j7 j9 U U U (by rw[qx hk2,hv])) ?_
       refine aA jg U<|am U<|am U<|z2<|zb<|zr (fun j=>false) (by kernel_rfl) U (zo (.rest _))<|ai 0 U (yp Z0 ji U U)<|ai 1 U (dx U)<|ai 2 U (db Z4 U jh U U)<|ai 3 U (gd jx U)<|ai 4 U (dx U)<|ai 5 U (bB k j7 j9 U U U (by rw[qx hk3,hc])) ?_
       refine ai 6 U (dQ jg U)<|ai 7 U (db je U Zd U U)<|ai 8 U (gd Zf U)<|ai 9 U (db Z4 U jh U U)<|ai 10 U (gd jx U)<|ai 11 U (dx U)<|ai 12 U (bB k j7 j9 U U U (by rw[qx hk3,hc])) ?_
       refine ai 13 U (dQ jg U)<|ai 14 U (bB c.toNat ju Z2 U U (by omega) hdg)<|ai 15 U (db jr U Zw U U)<|ai 16 U (gd Y3 U)<|ai 17 U (Gv.lenM Z6 U)<|aN 18 U<|ze (jB f hE hf hvv c d.insts.length hcr.1 hcr.2) U<|z2<|ai 19 U (Gv.not U)<|bI<|zw U (fun cq=>?_) (fun cq=>?_)
       ·have hq:eZ f (aD f v) c (fA f c)=false:=by rw[hla];simpa using cq
        refine ae<|ad U<|z2<|zg<|zm (x:=.bool _) U ?_
        rw[qD hi2 hget (by unfold pS;rw[show b.phis.all (KI f)=false from Bool.eq_false_iff.2 (dI hj2 (by rw[hp];unfold KI;exact Bool.eq_false_iff.2 (dI hz (by rw[hzk];exact hq))))];simp)]
       ·have hq:eZ f (aD f v) c (fA f c)=true:=by rw[hla];simpa using cq
        refine zf<|aW<|aC U U<|aa U<|z2 ?_
        exact ⟨k+1,⟨rfl,rfl,rfl,rfl,rfl,rfl,rfl,rfl,rfl,rfl,rfl,rfl,rfl,trivial⟩,aL,aE,⟨hk2,bS hz hkall (by rw[hzk];exact hq)⟩,by omega⟩
      ·have hkn:k=p.args.length:=by simp at ck;omega
       have hzl:(p.args.zip p.from_).length=p.args.length:=by rw[List.length_zip];omega
       rw[hkn,←hzl,w4] at hkall
       refine y4<|aW<|aC U U<|aa U<|z2 ?_
       exact ⟨j+1,pI,aL,aE,⟨hj2,bS hj2 hjall (by rw[hp];exact hkall)⟩,by omega⟩
     ·have hjn:j=b.phis.length:=by simp at cjj;omega
      subst hjn
      rw[w4] at hjall
      refine y4<|zb<|ae<|ak jr U Zw U U<|aI Y3 U<|aj Z6 U<|aa U<|z2<|zi<|y5 (γ:=Nat) [1,3,6,7,45,46,47,95,96] (fun k=>[(97,.i k)]) (fun k=>[]) (fun k=>k≤b.insts.length∧((b.insts.zipIdx).take k).all (KJ f i)=true) (fun k=>b.insts.length - k) 0 aL aE (⟨w2 _,U⟩) ?_
      rintro k ⟨hk,hkall⟩
      refine ae<|ap U U<|z2<|zb<|zn U (fun ck=>?_) (fun ck=>?_)
      ·have hk2:k<b.insts.length:=by simp at ck;omega
       obtain ⟨z,hzk⟩:∃z,b.insts[k]=z:=⟨_,rfl⟩
       have hzm:z∈b.insts:=hzk▸w3 hk2
       have hI:=gh (hIn z hzm)
       have hzl:=hb4 z hzm
       have hzi:k<b.insts.zipIdx.length:=by simp;exact hk2
       have hze:b.insts.zipIdx[k]=(z,k):=by simp[hzk]
       refine zf<|zb<|zi<|ae<|aa U<|z8 (bB k Z6 Za U U U (by rw[qx hk2,hzk])) ?_
       refine ac Yj Za U U<|zu (cs:=[.int .i64 0,.int .i64 0,.n,.int .i64 0]) Zr U U<|fun i13=>am U<|zj Za U U U U U U .head U<|zd (y8 (t:=13) U .head)<|z2<|ae<|ak jd U jh U U<|aI jx U<|aj j7 U<|aa U<|z2<|zi<|y5 (γ:=Nat) [1,3,6,7,12,45,46,47,95,96,97,103,104] (fun m=>[(105,.i m)]) (fun m=>[]) (fun m=>m≤z.args.length∧(z.args.take m).all (fun v=>eZ f (aD f v) i k)=true) (fun m=>z.args.length - m) 0 aL aE (⟨w2 _,U⟩) ?_
       rintro m ⟨hm,hmall⟩
       refine ae<|ap U U<|z2<|zb<|zn U (fun cm=>?_) (fun cm=>?_)
       ·have hm2:m<z.args.length:=by simp at cm;omega
        obtain ⟨v,hv⟩:∃v,z.args[m]=v:=⟨_,rfl⟩
        have hvv:=hI.args v (hv▸w3 hm2)
        refine zf<|zb<|zi<|ae<|z8 (bB m j7 j9 U U U (by rw[qx hm2,hv])) ?_
        refine aA jg U<|am U<|z2<|ae<|ac Z0 ji U U<|aa U<|aa U<|aa U<|ze (jB f hE hf hvv (i:Int) (k:Int) (by omega) (by omega)) U<|aJ U<|z2<|zw U (fun cq=>?_) (fun cq=>?_)
        ·have hq:eZ f (aD f v) i k=false:=by simpa using cq
         refine ae<|ad U<|z2<|zg<|zm (x:=.bool _) U ?_
         rw[qD hi2 hget (by unfold pS;rw[show b.insts.zipIdx.all (KJ f i)=false from Bool.eq_false_iff.2 (dI hzi (by rw[hze];unfold KJ;exact Bool.eq_false_iff.2 (dI hm2 (by rw[hv];exact hq))))];simp)]
        ·have hq:eZ f (aD f v) i k=true:=by simpa using cq
         refine zf<|aW<|aC U U<|aa U<|z2 ?_
         exact ⟨m+1,⟨rfl,rfl,rfl,rfl,rfl,rfl,rfl,rfl,rfl,rfl,rfl,rfl,rfl,trivial⟩,aL,aE,⟨hm2,bS hm2 hmall (by rw[hv];exact hq)⟩,by omega⟩
       ·have hmn:m=z.args.length:=by simp at cm;omega
        rw[hmn,w4] at hmall
        refine y4<|aW<|aC U U<|aa U<|z2 ?_
        exact ⟨k+1,pI,aL,aE,⟨hk2,bS hzi hkall (by rw[hze];exact hmall)⟩,by omega⟩
      ·have hkn:k=b.insts.length:=by simp at ck;omega
       rw[hkn,show b.insts.length=b.insts.zipIdx.length by simp,w4] at hkall
       refine y4<|ae<|ak jr U Zp U U<|ak jj U Y4 U U<|aA Yi U<|aO U U<|aq U<|zt (s:=121) U (fun c0=>?_) (fun c0=>?_)
       ·have d0:¬b.term.kind=0:=by simpa using c0
        refine z7 U U c0<|ac Z0 ji U U<|z7 U U c0<|ak jr U Zp U U<|z7 U U c0<|ak jj U j9 U U<|z7 U U c0<|aA jg U<|z7 U U c0<|aa U<|z7 U U c0<|ak jr U Zw U U<|z7 U U c0<|aI Y3 U<|z7 U U c0<|aj Z6 U<|z7 U U c0<|ze (jB f hE hf (fI hTm d0) (i:Int) (b.insts.length:Int) (by omega) (by omega)) U<|z7 U U c0<|aJ U<|au U c0 U<|z2<|zw U (fun cq=>?_) (fun cq=>?_)
        ·have hq:eZ f (aD f b.term.var) i b.insts.length=false:=by simpa using cq
         refine ae<|ad U<|z2<|zg<|zm (x:=.bool _) U ?_
         rw[qD hi2 hget (by unfold pS KK;rw[hq,wg d0];simp)]
        ·have hq:eZ f (aD f b.term.var) i b.insts.length=true:=by simpa using cq
         refine zf<|aW<|aC U U<|aa U<|z2 ?_
         exact ⟨i+1,fC,aL,aE,⟨hi2,cL hiall (by rw[oP hget];unfold pS KK;rw[hjall,hkall,hq];simp[dr])⟩,by omega⟩
       ·have d0:b.term.kind=0:=by simpa using c0
        refine z6 U U c0<|z6 U U c0<|z6 U U c0<|z6 U U c0<|z6 U U c0<|z6 U U c0<|z6 U U c0<|z6 U U c0<|z6 U U c0<|z6 U U c0<|aw U c0 U<|z2<|yq U U<|zf<|aW<|aC U U<|aa U<|z2 ?_
        exact ⟨i+1,fC,aL,aE,⟨hi2,cL hiall (by rw[oP hget];unfold pS KK;rw[hjall,hkall,d0];simp[dr])⟩,by omega⟩
   ·have hin:i=f.blocks.length:=by simp at ci;omega
    subst hin
    refine y4<|ae<|ad U<|z2<|zg<|zm (x:=.bool _) U ?_
    rw[show kr f=true by unfold kr;rw[dj,donce,hiall];rfl]
end
section
open Go.Proofs.Tryz
open Go.Proofs Go.Lib Go.Shelf Go.RowKit
variable {E:World}
set_option maxRecDepth 20000
theorem gj (f:ab) (v:Int) (hv:bt f v=true):aP prog E 127 [.agg (bw f),.int .i64 v] (.int .i64 (aU f v)):=by
 obtain ⟨x,hx,hv2,hk⟩:=wN hv
 rw[hk]
 refine zp func127 U (by decide) U<|ae<|y6 (cs:=_) U U U<|am U<|z2<|ae<|ak je U Zn U U<|aI Zz U<|aa U<|z8 (bB v.toNat Z7 Yf U U hv2 hx)<|ak Zt U X9 U U<|aA Xj U<|am U<|z2<|zg<|zm (x:=.int _ _) U ?_
 rfl
theorem sd (c:Int):aP prog E 128 [.int .u8 c] (.int .i64 (eK c)):=by
 refine zp func128 U (by decide) U<|ae<|am U<|z2<|zb<|ae<|aa U<|z2<|zi<|ae<|ao U U<|ad U<|z2<|zw U (fun c1=>?_) (fun c1=>?_)
 ·refine ae<|am U<|z2<|zg<|zm (x:=.int _ _) U ?_
  unfold eK;simp_all
 ·refine ae<|ao U U<|ad U<|z2<|zw U (fun c2=>?_) (fun c2=>?_)
  ·refine ae<|am U<|z2<|zg<|zm (x:=.int _ _) U ?_
   unfold eK;simp_all
  ·refine zf<|ae<|am U<|z2<|zg<|zm (x:=.int _ _) U ?_
   unfold eK;simp_all
theorem Dz:∀j:Nat,j<27→decide ((cH (j:Int)).1=⟨#[99,111,112,121]⟩)=decide (j=1):=by decide
theorem qE {op:Int} (h:0≤op∧op≤26):((cH op).1=⟨#[99,111,112,121]⟩)↔op=1:=by
 have h1:=Dz op.toNat (by omega)
 rw[wj h.1] at h1
 constructor
 ·intro e
  have:decide (op.toNat=1)=true:=by rw[←h1];exact we e
  have:=wk this
  omega
 ·intro e
  have h2:op.toNat=1:=by omega
  have:decide ((cH op).1=⟨#[99,111,112,121]⟩)=true:=by rw[h1];exact we h2
  exact wk this
theorem se {op:Int} (h:0≤op∧op≤26):gS[op.toNat]?=some (cH op):=by
 unfold cH
 have hl:op.toNat<gS.length:=by have:gS.length=27:=rfl;omega
 rw[if_pos h.1,qx hl];rfl
def iz (f:ab) (x:aB):List Int:=if x.op=1 then[aU f x.dst] else aX x.op
theorem DA {f:ab} {x:aB} (h:dC f x):x.args.length=(iz f x).length:=by
 rw[h.len]
 unfold iz
 split
 ·rename_i e;rw[e];rfl
 ·rfl
theorem sf {f:ab} {x:aB} (h:dC f x):fz f x=(decide (x.args.map (aU f)=iz f x)&&(!bE x.op||(decide (x.op=1)||decide (aU f x.dst=di x.op)))):=by
 unfold fz iz
 by_cases e:x.op=1
 ·have hl:=h.len
  rw[e,show (aX 1).length=1 from rfl] at hl
  obtain ⟨a,ha⟩:=List.length_eq_one_iff.1 hl
  rw[if_pos e,if_pos e,ha]
  simp[e]
  exact eq_comm
 ·rw[if_neg e,if_neg e];simp[e]
theorem AZ {op:Int} {m:Nat} (h:m<(aX op).length):∃c:UInt8,(cH op).2.1.data[m]?=some c∧(aX op)[m]=eK (c.toNat:Int):=by
 have h1:m<(cH op).2.1.data.size:=by rw[oL] at h;exact h
 have e:(aX op)[m]?=((cH op).2.1.data.toList[m]?).map fun b=>eK b.toNat:=by unfold aX;rw[w7]
 rw[qx h,Array.getElem?_toList,Array.getElem?_eq_getElem h1] at e
 exact ⟨(cH op).2.1.data[m],by rw[Array.getElem?_eq_getElem h1],by simpa using e⟩
theorem A3 {op:Int} (h:¬(cH op).2.2=⟨#[]⟩):∃c:UInt8,(cH op).2.2.data[0]?=some c∧di op=eK (c.toNat:Int):=by
 unfold di
 generalize (cH op).2.2=m at h ⊢
 obtain ⟨⟨l⟩⟩:=m
 cases l with
 |nil=>exact absurd rfl h
 |cons c l=>exact ⟨c,by simp,rfl⟩
end
section
open Go.Proofs.Tryz
open Go.Proofs Go.Lib Go.Shelf Go.RowKit
variable {E:World}
set_option maxRecDepth 20000
theorem Fw {f:ab} {x:aB} {m:Nat} (e:x.op=1) (h:m<(iz f x).length):(iz f x)[m]=aU f x.dst:=by
 have h2:(iz f x)[m]?=some (aU f x.dst):=by
  unfold iz at h ⊢
  rw[if_pos e] at h ⊢
  simp at h
  subst h;rfl
 rw[qx h] at h2
 exact Option.some.inj h2
theorem Fx {f:ab} {x:aB} {m:Nat} (e:¬x.op=1) (h:m<(iz f x).length) (h':m<(aX x.op).length):(iz f x)[m]=(aX x.op)[m]:=by
 have h2:(iz f x)[m]?=some ((aX x.op)[m]):=by
  unfold iz
  rw[if_neg e,qx h']
 rw[qx h] at h2
 exact Option.some.inj h2
theorem DB {f:ab} {t:fg} (h:bJ f t=true):t.kind=0∨t.kind=1∨t.kind=2:=by
 unfold bJ at h
 by_cases h0:t.kind=0
 ·exact .inl h0
 ·rw[if_neg h0] at h
  by_cases h1:t.kind=1
  ·exact .inr (.inl h1)
  ·rw[if_neg h1] at h
   by_cases h2:t.kind=2
   ·exact .inr (.inr h2)
   ·rw[if_neg h2] at h;cases h
set_option maxHeartbeats 8000000 in
theorem tI (f:ab) (hf:small f) (hS:bH f):aP prog E 84 [.agg (bw f)] (.bool (f.blocks.all (jK f))):=by
 have hn:=hf.2.2.1
 refine zp func84 U (by decide) U<|ae<|y6 (cs:=_) U U U<|ad U<|z2<|zb<|ae<|ak je U Zd U U<|aI Zf U<|aj ju U<|aa U<|z2<|zi<|y5 (γ:=Nat) [1,16,17] (fun i=>[(18,.i i)]) (fun i=>[]) (fun i=>i≤f.blocks.length∧(f.blocks.take i).all (jK f)=true) (fun i=>f.blocks.length - i) 0 aL aE (⟨w2 _,U⟩) ?_
 rintro i ⟨hi,hall⟩
 refine ae<|ap U U<|z2<|zb<|zn U (fun ci=>?_) (fun ci=>?_)
 ·have hi2:i<f.blocks.length:=by simp at ci;omega
  obtain ⟨b,hbi⟩:∃b,f.blocks[i]=b:=⟨_,rfl⟩
  have hget:f.blocks[i]?=some b:=by rw[qx hi2,hbi]
  have hmem:b∈f.blocks:=hbi▸w3 hi2
  obtain ⟨hb0,hb1,hb2,hb3,hb4⟩:=hf.2.2.2.2 b hmem
  obtain ⟨hPh,hIn,hTm⟩:=hS.2.2.2.2.2 b hmem
  have hbad:jK f b=false→f.blocks.all (jK f)=false:=fun h=>Bool.eq_false_iff.2 (dI hi2 (by rw[hbi];exact h))
  refine zf<|zb<|zi<|ae<|z8 (bB i ju Z2 U U U hget)<|ac Yc Z2 U U<|zu (cs:=[.e,.n,.n,.int .i64 0,.int .i64 0,.int .i64 0,.int .i64 0]) Zh U U<|fun i4=>zj Z2 U U U U U U .head U<|zd (y8 (t:=4) U .head)<|z2<|zb<|ae<|ak jr U Zv U U<|aI Yd U<|aj Z8 U<|aa U<|z2<|zi<|y5 (γ:=Nat) [1,4,16,17,18,23,24] (fun j=>[(25,.i j)]) (fun j=>[]) (fun j=>j≤b.phis.length∧(b.phis.take j).all (tz f)=true) (fun j=>b.phis.length - j) 0 aL aE (⟨w2 _,U⟩) ?_
  rintro j ⟨hj,hjall⟩
  refine ae<|ap U U<|z2<|zb<|zn U (fun cj=>?_) (fun cj=>?_)
  ·have hj2:j<b.phis.length:=by simp at cj;omega
   obtain ⟨p,hp⟩:∃p,b.phis[j]=p:=⟨_,rfl⟩
   have hpm:p∈b.phis:=hp▸w3 hj2
   obtain ⟨hpd,hpl,hpn,hpa,hpf⟩:=hPh p hpm
   have hpb:=(hb3 p hpm).1
   refine zf<|zb<|zi<|ae<|z8 (bB j Z8 Ze U U U (by rw[qx hj2,hp])) ?_
   refine ac Ys Ze U U<|zu (cs:=[.int .i64 0,.n,.n]) Y1 U U<|fun i6=>zj Ze U U U U U U .head U<|zd (y8 (t:=6) U .head)<|z2<|ae<|ak Z4 U jh U U<|aI jx U<|aj j7 U<|aa U<|z2<|zi<|y5 (γ:=Nat) [1,4,6,16,17,18,23,24,25,30,31] (fun k=>[(32,.i k)]) (fun k=>[]) (fun k=>k≤p.args.length∧(p.args.take k).all (fun v=>decide (aU f v=aU f p.dst))=true) (fun k=>p.args.length - k) 0 aL aE (⟨w2 _,U⟩) ?_
   rintro k ⟨hk,hkall⟩
   refine ae<|ap U U<|z2<|zb<|zn U (fun ck=>?_) (fun ck=>?_)
   ·have hk2:k<p.args.length:=by simp at ck;omega
    obtain ⟨v,hv⟩:∃v,p.args[k]=v:=⟨_,rfl⟩
    have hvv:=List.all_eq_true.1 hpa v (hv▸w3 hk2)
    refine zf<|zb<|zi<|ae<|z8 (bB k j7 j9 U U U (by rw[qx hk2,hv])) ?_
    refine aA jg U<|am U<|z2<|zb<|zr (fun j=>false) (by kernel_rfl) U (zo (.rest _))<|ai 0 U (yp Z0 ji U U)<|ai 1 U (dx U)<|ai 3 U (yp Z0 ji U U)<|ai 4 U (db Z4 U j9 U U)<|ai 5 U (dQ jg U)<|aN 2 U<|ze (gj f v hvv) U<|z2<|aN 6 U<|ze (gj f p.dst hpd) U<|z2<|ai 7 U (Gv.neqI U U)<|bI<|zw U (fun cq=>?_) (fun cq=>?_)
    ·have hq:¬aU f v=aU f p.dst:=by simpa using cq
     have hph:tz f p=false:=by
      unfold tz
      rw[show (p.args.any fun v=>!decide (aU f v=aU f p.dst))=true from List.any_eq_true.2 ⟨v,hv▸w3 hk2,by simp[hq]⟩];rfl
     refine ae<|ad U<|z2<|zg<|zm (x:=.bool _) U ?_
     rw[hbad (by unfold jK;rw[show b.phis.all (tz f)=false from Bool.eq_false_iff.2 (dI hj2 (by rw[hp];exact hph))];rfl)]
    ·have hq:aU f v=aU f p.dst:=by simpa using cq
     refine zf<|aW<|aC U U<|aa U<|z2 ?_
     exact ⟨k+1,qP,aL,aE,⟨hk2,bS hk2 hkall (by rw[hv];simp[hq])⟩,by omega⟩
   ·have hkn:k=p.args.length:=by simp at ck;omega
    rw[hkn,w4] at hkall
    have hph:tz f p=true:=by
     unfold tz
     rw[show (p.args.any fun v=>!decide (aU f v=aU f p.dst))=false from List.any_eq_false.2 fun v hv=>by have:=List.all_eq_true.1 hkall v hv;simpa using this];rfl
    refine y4<|aW<|aC U U<|aa U<|z2 ?_
    exact ⟨j+1,lg,aL,aE,⟨hj2,bS hj2 hjall (by rw[hp];exact hph)⟩,by omega⟩
  ·have hjn:j=b.phis.length:=by simp at cj;omega
   subst hjn
   rw[w4] at hjall
   refine y4<|zb<|ae<|ak jr U Zw U U<|aI Y3 U<|aj Z6 U<|aa U<|z2<|zi<|y5 (γ:=Nat) [1,4,16,17,18,47,48] (fun k=>[(49,.i k)]) (fun k=>[]) (fun k=>k≤b.insts.length∧(b.insts.take k).all (fz f)=true) (fun k=>b.insts.length - k) 0 aL aE (⟨w2 _,U⟩) ?_
   rintro k ⟨hk,hkall⟩
   refine ae<|ap U U<|z2<|zb<|zn U (fun ck=>?_) (fun ck=>?_)
   ·have hk2:k<b.insts.length:=by simp at ck;omega
    obtain ⟨z,hz⟩:∃z,b.insts[k]=z:=⟨_,rfl⟩
    have hzm:z∈b.insts:=hz▸w3 hk2
    have hI:=gh (hIn z hzm)
    have hzl:=hb4 z hzm
    have hwl:=DA hI
    have hdst:bE z.op=true→bt f z.dst=true:=fun h=>by
     rcases hI.dst with ⟨d1,_⟩|⟨_,_,d3⟩
     ·rw[h] at d1;cases d1
     ·exact d3
    have hcopy:z.op=1→bE z.op=true:=fun h=>by rw[h];rfl
    have hib:fz f z=false→f.blocks.all (jK f)=false:=fun h=>hbad (by unfold jK;rw[hjall,show b.insts.all (fz f)=false from Bool.eq_false_iff.2 (dI hk2 (by rw[hz];exact h))];rfl)
    refine zf<|zb<|zi<|ae<|z8 (bB k Z6 Za U U U (by rw[qx hk2,hz])) ?_
    refine ac Yj Za U U<|zu (cs:=[.int .i64 0,.int .i64 0,.n,.int .i64 0]) Zr U U<|fun i10=>zj Za U U U U U U .head U<|zd (y8 (t:=10) U .head)<|z2<|zb<|yb (γ:=Nat) [1,4,10,16,17,18,47,48,49] (fun g=>[(11,.po g 0)]) (fun g=>[(g,.cells 169 (tx (cH z.op)))]) (fun g=>True) ?_ (fun _ _ h=>h) ?_
    ·refine zr (fun j=>false) (by kernel_rfl) U (zo (.rest _))<|ai 1 U (db jd U Zs U U)<|ai 2 U (dQ Y2 U)<|yj (i:=0) (j:=5) U U (by kernel_rfl) ?_ ?_
     ·refine ze (kn) U<|z2<|ai 3 U (bB z.op.toNat Xc Yz U U (by have:=hI.op;omega) (se hI.op))<|ai 4 U (yp isAgg169 Yz U U)<|aN 5 U<|zu (cs:=[.e,.e,.e]) Xg U U<|fun i11=>z2<|aN 6 U<|zj Yz U U U U U U .head U<|z2<|bI ?_
      exact ⟨i11,pI,aL,aE,trivial⟩
     ·refine zu (cs:=[.e,.e,.e]) Xg U U<|fun i11=>z2<|aN 0 U<|ze (kn) U<|z2<|ai 3 U (bB z.op.toNat Xc Yz U U (by have:=hI.op;omega) (se hI.op))<|ai 4 U (yp isAgg169 Yz U U)<|aN 6 U<|zj Yz U U U U U U .head U<|z2<|bI ?_
      exact ⟨i11,pI,aL,aE,trivial⟩
    ·rintro i11 _
     refine zb<|ae<|ak jd U jh U U<|aI jx U<|aj j7 U<|aa U<|z2<|zi<|y5 (γ:=Nat) [1,4,10,11,16,17,18,47,48,49,60] (fun m=>[(61,.i m)]) (fun m=>[(i11,.cells 169 (tx (cH z.op)))]) (fun m=>m≤z.args.length∧(z.args.take m).map (aU f)=(iz f z).take m) (fun m=>z.args.length - m) 0 aL aE (⟨w2 _,by simp⟩) ?_
     rintro m ⟨hm,hmall⟩
     refine ae<|ap U U<|z2<|zb<|zn U (fun cm=>?_) (fun cm=>?_)
     ·have hm2:m<z.args.length:=by simp at cm;omega
      have hmw:m<(iz f z).length:=by omega
      have hmt:m<(aX z.op).length:=by have:=hI.len;omega
      obtain ⟨v,hv⟩:∃v,z.args[m]=v:=⟨_,rfl⟩
      have hvv:=hI.args v (hv▸w3 hm2)
      obtain ⟨c,hc,hct⟩:=AZ hmt
      have hbadm:¬aU f v=(iz f z)[m]→f.blocks.all (jK f)=false:=fun h=>hib (by rw[sf hI,wg (EG hm2 hmw (by rw[hv];exact h))];rfl)
      refine zf<|zb<|zi<|ae<|aa U<|am U<|z2<|ae<|z8 (zh Y7 U Y6 (by decide) U U)<|z8 (zq (c:=.str _) Yk U ⟨_,.head⟩ U)<|aa U<|z8 (Gv.indexT (j:=m) Zy U U U hc)<|ze (sd (c.toNat:Int)) U<|am U<|z2<|zb<|ae<|z8 (zh Y7 U Y6 (by decide) U U)<|z8 (zq (c:=.str _) Yk U ⟨_,.head⟩ U)<|z8 (q7 U U)<|z2<|zw U (fun cw=>?_) (fun cw=>?_)
      ·have ew:z.op=1:=(qE hI.op).1 (by simpa using cw)
       refine aW<|ac Z0 ji U U<|ak jd U j9 U U<|aA jg U<|ze (gj f z.dst (hdst (hcopy ew))) U<|am U<|z2<|zb<|zr (fun j=>false) (by kernel_rfl) U (zo (.rest _))<|ai 0 U (yp Z0 ji U U)<|ai 1 U (db jd U jh U U)<|ai 2 U (gd jx U)<|ai 3 U (dx U)<|ai 4 U (bB m j7 j9 U U U (by rw[qx hm2,hv])) ?_
       refine ai 5 U (dQ jg U)<|ai 7 U (dx U)<|aN 6 U<|ze (gj f v hvv) U<|z2<|ai 8 U (Gv.neqI U U)<|bI<|zw U (fun cq=>?_) (fun cq=>?_)
       ·have hq:¬aU f v=aU f z.dst:=by simpa using cq
        refine ae<|ad U<|z2<|zg<|zm (x:=.bool _) U ?_
        rw[hbadm (by rw[Fw ew hmw];exact hq)]
       ·have hq:aU f v=aU f z.dst:=by simpa using cq
        refine zf<|aW<|aC U U<|aa U<|z2 ?_
        exact ⟨m+1,qP,aL,aE,⟨hm2,jY hm2 hmw hmall (by rw[hv,Fw ew hmw];exact hq)⟩,by omega⟩
      ·have ew:¬z.op=1:=fun e=>by have:=(qE hI.op).2 e;simp[this] at cw
       refine zf<|zb<|zr (fun j=>false) (by kernel_rfl) U (zo (.rest _))<|ai 0 U (yp Z0 ji U U)<|ai 1 U (db jd U jh U U)<|ai 2 U (gd jx U)<|ai 3 U (dx U)<|ai 4 U (bB m j7 j9 U U U (by rw[qx hm2,hv])) ?_
       refine ai 5 U (dQ jg U)<|ai 7 U (dx U)<|aN 6 U<|ze (gj f v hvv) U<|z2<|ai 8 U (Gv.neqI U U)<|bI<|zw U (fun cq=>?_) (fun cq=>?_)
       ·have hq:¬aU f v=eK (c.toNat:Int):=by simpa using cq
        refine ae<|ad U<|z2<|zg<|zm (x:=.bool _) U ?_
        rw[hbadm (by rw[Fx ew hmw hmt,hct];exact hq)]
       ·have hq:aU f v=eK (c.toNat:Int):=by simpa using cq
        refine zf<|aW<|aC U U<|aa U<|z2 ?_
        exact ⟨m+1,qP,aL,aE,⟨hm2,jY hm2 hmw hmall (by rw[hv,Fx ew hmw hmt,hct];exact hq)⟩,by omega⟩
     ·have hmn:m=z.args.length:=by simp at cm;omega
      have hall2:z.args.map (aU f)=iz f z:=by rw[hmn,w4,hwl,w4] at hmall;exact hmall
      have hiw:=sf hI
      rw[we hall2,Bool.true_and] at hiw
      refine y4<|zb<|zr (fun j=>false) (by kernel_rfl) U (zo (.r (.rest _)))<|ai 0 U (zh Y7 U Y6 (by decide) U U)<|ai 1 U (zq (c:=.str _) Yk U ⟨_,.head⟩ U)<|ai 2 U (Gv.neqT U U)<|ai 3 U (zX U)<|bT.case (s:=89) U (fun c1=>?_) (fun c1=>?_)
      ·have d1:¬(cH z.op).2.2=⟨#[]⟩:=by simpa using c1
       have dm:bE z.op=true:=by rw[mx,wg d1];rfl
       obtain ⟨c,hc,hct⟩:=A3 d1
       refine ie 4 U U U c1 (zh Y7 U Y6 (by decide) U U)<|ie 5 U U U c1 (zq (c:=.str _) Yk U ⟨_,.head⟩ U)<|ie 6 U U U c1 (Gv.neqT U U)<|ai 7 U (Ep U c1 U)<|ai 8 U (zX U)<|bT.case (s:=94) U (fun c2=>?_) (fun c2=>?_)
       ·have ew:¬z.op=1:=fun e=>by have:=(qE hI.op).2 e;simp[this] at c2
        refine ie 9 U U U c2 (yp Z0 ji U U)<|ie 10 U U U c2 (db jd U j9 U U)<|ie 11 U U U c2 (dQ jg U)<|ie 13 U U U c2 (zh Y7 U Y6 (by decide) U U)<|ie 14 U U U c2 (zq (c:=.str _) Yk U ⟨_,.head⟩ U)<|ie 15 U U U c2 (Gv.indexT (j:=0) Zy U U U hc)<|aN 12 U<|z7 U U c2<|ze (gj f z.dst (hdst dm)) U<|z2<|aN 16 U<|z7 U U c2<|ze (sd (c.toNat:Int)) U<|z2<|ie 17 U U U c2 (Gv.neqI U U)<|ai 18 U (Ep U c2 U)<|bI<|zw U (fun cq=>?_) (fun cq=>?_)
        ·have hq:¬aU f z.dst=eK (c.toNat:Int):=by simpa using cq
         refine ae<|ad U<|z2<|zg<|zm (x:=.bool _) U ?_
         rw[hib (by rw[hiw,dm,wg ew,hct,wg hq];rfl)]
        ·have hq:aU f z.dst=eK (c.toNat:Int):=by simpa using cq
         refine zf<|aW<|aC U U<|aa U<|z2 ?_
         exact ⟨k+1,lg,aL,⟨_,(.drop (.refl _)),rfl⟩,⟨hk2,bS hk2 hkall (by rw[hz,hiw,hct,we hq];simp)⟩,by omega⟩
       ·have ew:z.op=1:=(qE hI.op).1 (by simpa using c2)
        refine fv 9 U U U c2<|fv 10 U U U c2<|fv 11 U U U c2<|fv 12 U U U c2<|fv 13 U U U c2<|fv 14 U U U c2<|fv 15 U U U c2<|fv 16 U U U c2<|fv 17 U U U c2<|ai 18 U (Eg U c2 U)<|bI<|yq U U<|zf<|aW<|aC U U<|aa U<|z2 ?_
        exact ⟨k+1,lg,aL,⟨_,(.drop (.refl _)),rfl⟩,⟨hk2,bS hk2 hkall (by rw[hz,hiw,we ew];simp)⟩,by omega⟩
      ·have d1:(cH z.op).2.2=⟨#[]⟩:=by simpa using c1
       have dm:bE z.op=false:=by rw[mx,we d1];rfl
       refine fv 4 U U U c1<|fv 5 U U U c1<|fv 6 U U U c1<|ai 7 U (Eg U c1 U)<|ai 8 U (zX U)<|fv 9 U U U U<|fv 10 U U U U<|fv 11 U U U U<|fv 12 U U U U<|fv 13 U U U U<|fv 14 U U U U<|fv 15 U U U U<|fv 16 U U U U<|fv 17 U U U U<|ai 18 U (Eg U U U)<|bI<|yq U U<|zf<|aW<|aC U U<|aa U<|z2 ?_
       exact ⟨k+1,lg,aL,⟨_,(.drop (.refl _)),rfl⟩,⟨hk2,bS hk2 hkall (by rw[hz,hiw,dm];rfl)⟩,by omega⟩
   ·have hkn:k=b.insts.length:=by simp at ck;omega
    rw[hkn,w4] at hkall
    refine y4<|ae<|ak jr U Zp U U<|ac Xk Zp U U<|zu (cs:=[.int .i64 0,.int .i64 0,.int .i64 0,.int .i64 0]) Xf U U<|fun i14=>zj Zp U U U U U U .head U<|zd (y8 (t:=14) U .head)<|z2<|zb<|yb (γ:=Bool) [1,16,17,18] (fun u=>[(152,.bool u)]) (fun u=>[]) (fun u=>u=!eE f b.term) ?_ (fun _ _ h=>h) ?_
    ·have hk3:=DB hTm
     refine aW<|ak jj U Y4 U U<|aA Yi U<|ao U U<|aq U<|zt (s:=111) U (fun c1=>?_) (fun c1=>?_)
     ·refine z7 U U c1<|ac Z0 ji U U<|z7 U U c1<|ak jj U j9 U U<|z7 U U c1<|aA jg U<|z7 U U c1<|ze (gj f b.term.var (fI hTm (by simp_all))) U<|z7 U U c1<|aO U U<|au U c1 U<|aq U<|zt (s:=118) U (fun c2=>?_) (fun c2=>?_)
      ·refine z6 U U c2<|z6 U U c2<|z6 U U c2<|z6 U U c2<|zk U U<|zk U U<|zk U U<|zk U U<|zk U U<|zk U U<|zk U U<|zk U U<|zk U U<|zk U U<|zk U U<|zk U U<|zk U U<|zk U U<|zk U U<|zk U U<|zk U U<|z6 U U c2<|au U c2 U<|aq U<|z6 U U U<|z6 U U U<|z6 U U U<|z6 U U U<|zk U U<|zk U U<|zk U U<|zk U U<|z6 U U U<|au U U U<|z2 ?_
       exact ⟨_,fC,aL,aE,by simp_all[eE]<;>omega⟩
      ·refine z7 U U c2<|ak jj U Y4 U U<|z7 U U c2<|aA Yi U<|z7 U U c2<|ao U U<|z7 U U c2<|aq U<|zt (s:=122) U (fun c3=>?_) (fun c3=>?_)
       ·refine z7 U U c3<|ac Z0 ji U U<|z7 U U c3<|ak jj U j9 U U<|z7 U U c3<|aA jg U<|z7 U U c3<|ze (gj f b.term.var (fI hTm (by simp_all))) U<|z7 U U c3<|aO U U<|z7 U U c3<|aq U<|zt (s:=128) U (fun c4=>?_) (fun c4=>?_)
        ·refine z6 U U c4<|z6 U U c4<|z6 U U c4<|z6 U U c4<|z7 U U c3<|au U c4 U<|z7 U U c3<|aq U<|z6 U U U<|z6 U U U<|z6 U U U<|z6 U U U<|z7 U U c3<|au U U U<|z7 U U c2<|au U c3 U<|aw U c2 U<|aq U<|z6 U U U<|z6 U U U<|z6 U U U<|z6 U U U<|zk U U<|zk U U<|zk U U<|zk U U<|z6 U U U<|au U U U<|z2 ?_
         exact ⟨_,fC,aL,aE,by simp_all[eE]<;>omega⟩
        ·refine z7 U U c4<|ak jj U Zg U U<|z7 U U c4<|z8 (yx (j:=0) Z9 j9 U U U (by decide) U)<|z7 U U c4<|aA jg U<|z7 U U c4<|ao U U<|z7 U U c3<|aw U c4 U<|z7 U U c3<|aq U<|zt (s:=134) U (fun c5=>?_) (fun c5=>?_)
         ·refine z6 U U c5<|z6 U U c5<|z6 U U c5<|z6 U U c5<|z7 U U c3<|au U c5 U<|z7 U U c2<|au U c3 U<|aw U c2 U<|aq U<|z6 U U U<|z6 U U U<|z6 U U U<|z6 U U U<|zk U U<|zk U U<|zk U U<|zk U U<|z6 U U U<|au U U U<|z2 ?_
          exact ⟨_,fC,aL,aE,by simp_all[eE]<;>omega⟩
         ·refine z7 U U c5<|ak jj U Zg U U<|z7 U U c5<|z8 (yx (j:=1) Z9 j9 U U U (by decide) U)<|z7 U U c5<|aA jg U<|z7 U U c5<|ao U U<|z7 U U c3<|aw U c5 U<|z7 U U c2<|au U c3 U<|aw U c2 U<|aq U<|zt (s:=142) U (fun c6=>?_) (fun c6=>?_)
          ·refine z6 U U c6<|z6 U U c6<|z6 U U c6<|z6 U U c6<|zk U U<|zk U U<|zk U U<|zk U U<|z6 U U c6<|au U c6 U<|z2 ?_
           exact ⟨_,fC,aL,aE,by simp_all[eE]<;>omega⟩
          ·refine z7 U U c6<|ak jj U Y4 U U<|z7 U U c6<|aA Yi U<|z7 U U c6<|ao U U<|z7 U U c6<|aq U<|zt (s:=146) U (fun c7=>?_) (fun c7=>?_)
           ·refine z7 U U c7<|ak jj U Zg U U<|z7 U U c7<|z8 (yx (j:=0) Z9 j9 U U U (by decide) U)<|z7 U U c7<|aA jg U<|z7 U U c7<|ao U U<|z7 U U c6<|au U c7 U<|aw U c6 U<|z2 ?_
            exact ⟨_,fC,aL,aE,by simp_all[eE]<;>omega⟩
           ·refine z6 U U c7<|z6 U U c7<|z6 U U c7<|z6 U U c7<|z7 U U c6<|aw U c7 U<|aw U c6 U<|z2 ?_
            exact ⟨_,fC,aL,aE,by simp_all[eE]<;>omega⟩
       ·refine z6 U U c3<|z6 U U c3<|z6 U U c3<|z6 U U c3<|z6 U U c3<|z6 U U c3<|zk U U<|zk U U<|zk U U<|zk U U<|z6 U U c3<|z6 U U c3<|zk U U<|zk U U<|zk U U<|zk U U<|z6 U U c3<|z7 U U c2<|aw U c3 U<|aw U c2 U<|aq U<|z7 U U U<|ak jj U Y4 U U<|z7 U U U<|aA Yi U<|z7 U U U<|ao U U<|z7 U U U<|aq U<|zt (s:=146) U (fun c8=>?_) (fun c8=>?_)
        ·refine z7 U U c8<|ak jj U Zg U U<|z7 U U c8<|z8 (yx (j:=0) Z9 j9 U U U (by decide) U)<|z7 U U c8<|aA jg U<|z7 U U c8<|ao U U<|z7 U U U<|au U c8 U<|aw U U U<|z2 ?_
         exact ⟨_,fC,aL,aE,by simp_all[eE]<;>omega⟩
        ·refine z6 U U c8<|z6 U U c8<|z6 U U c8<|z6 U U c8<|z7 U U U<|aw U c8 U<|aw U U U<|z2 ?_
         exact ⟨_,fC,aL,aE,by simp_all[eE]<;>omega⟩
     ·refine z6 U U c1<|z6 U U c1<|z6 U U c1<|z6 U U c1<|z6 U U c1<|aw U c1 U<|aq U<|z7 U U U<|ak jj U Y4 U U<|z7 U U U<|aA Yi U<|z7 U U U<|ao U U<|z7 U U U<|aq U<|zt (s:=122) U (fun c9=>?_) (fun c9=>?_)
      ·refine z7 U U c9<|ac Z0 ji U U<|z7 U U c9<|ak jj U j9 U U<|z7 U U c9<|aA jg U<|z7 U U c9<|ze (gj f b.term.var (fI hTm (by simp_all))) U<|z7 U U c9<|aO U U<|z7 U U c9<|aq U<|zt (s:=128) U (fun c10=>?_) (fun c10=>?_)
       ·refine z6 U U c10<|z6 U U c10<|z6 U U c10<|z6 U U c10<|z7 U U c9<|au U c10 U<|z7 U U c9<|aq U<|z6 U U U<|z6 U U U<|z6 U U U<|z6 U U U<|z7 U U c9<|au U U U<|z7 U U U<|au U c9 U<|aw U U U<|aq U<|z6 U U U<|z6 U U U<|z6 U U U<|z6 U U U<|zk U U<|zk U U<|zk U U<|zk U U<|z6 U U U<|au U U U<|z2 ?_
        exact ⟨_,fC,aL,aE,by simp_all[eE]<;>omega⟩
       ·refine z7 U U c10<|ak jj U Zg U U<|z7 U U c10<|z8 (yx (j:=0) Z9 j9 U U U (by decide) U)<|z7 U U c10<|aA jg U<|z7 U U c10<|ao U U<|z7 U U c9<|aw U c10 U<|z7 U U c9<|aq U<|zt (s:=134) U (fun c11=>?_) (fun c11=>?_)
        ·refine z6 U U c11<|z6 U U c11<|z6 U U c11<|z6 U U c11<|z7 U U c9<|au U c11 U<|z7 U U U<|au U c9 U<|aw U U U<|aq U<|z6 U U U<|z6 U U U<|z6 U U U<|z6 U U U<|zk U U<|zk U U<|zk U U<|zk U U<|z6 U U U<|au U U U<|z2 ?_
         exact ⟨_,fC,aL,aE,by simp_all[eE]<;>omega⟩
        ·refine z7 U U c11<|ak jj U Zg U U<|z7 U U c11<|z8 (yx (j:=1) Z9 j9 U U U (by decide) U)<|z7 U U c11<|aA jg U<|z7 U U c11<|ao U U<|z7 U U c9<|aw U c11 U<|z7 U U U<|au U c9 U<|aw U U U<|aq U<|zt (s:=142) U (fun c12=>?_) (fun c12=>?_)
         ·refine z6 U U c12<|z6 U U c12<|z6 U U c12<|z6 U U c12<|zk U U<|zk U U<|zk U U<|zk U U<|z6 U U c12<|au U c12 U<|z2 ?_
          exact ⟨_,fC,aL,aE,by simp_all[eE]<;>omega⟩
         ·refine z7 U U c12<|ak jj U Y4 U U<|z7 U U c12<|aA Yi U<|z7 U U c12<|ao U U<|z7 U U c12<|aq U<|zt (s:=146) U (fun c13=>?_) (fun c13=>?_)
          ·refine z7 U U c13<|ak jj U Zg U U<|z7 U U c13<|z8 (yx (j:=0) Z9 j9 U U U (by decide) U)<|z7 U U c13<|aA jg U<|z7 U U c13<|ao U U<|z7 U U c12<|au U c13 U<|aw U c12 U<|z2 ?_
           exact ⟨_,fC,aL,aE,by simp_all[eE]<;>omega⟩
          ·refine z6 U U c13<|z6 U U c13<|z6 U U c13<|z6 U U c13<|z7 U U c12<|aw U c13 U<|aw U c12 U<|z2 ?_
           exact ⟨_,fC,aL,aE,by simp_all[eE]<;>omega⟩
      ·refine z6 U U c9<|z6 U U c9<|z6 U U c9<|z6 U U c9<|z6 U U c9<|z6 U U c9<|zk U U<|zk U U<|zk U U<|zk U U<|z6 U U c9<|z6 U U c9<|zk U U<|zk U U<|zk U U<|zk U U<|z6 U U c9<|z7 U U U<|aw U c9 U<|aw U U U<|aq U<|z7 U U U<|ak jj U Y4 U U<|z7 U U U<|aA Yi U<|z7 U U U<|ao U U<|z7 U U U<|aq U<|zt (s:=146) U (fun c14=>?_) (fun c14=>?_)
       ·refine z7 U U c14<|ak jj U Zg U U<|z7 U U c14<|z8 (yx (j:=0) Z9 j9 U U U (by decide) U)<|z7 U U c14<|aA jg U<|z7 U U c14<|ao U U<|z7 U U U<|au U c14 U<|aw U U U<|z2 ?_
        exact ⟨_,fC,aL,aE,by simp_all[eE]<;>omega⟩
       ·refine z6 U U c14<|z6 U U c14<|z6 U U c14<|z6 U U c14<|z7 U U U<|aw U c14 U<|aw U U U<|z2 ?_
        exact ⟨_,fC,aL,aE,by simp_all[eE]<;>omega⟩
    ·rintro u hu
     subst hu
     refine zw U (fun ct=>?_) (fun ct=>?_)
     ·have dt:eE f b.term=false:=by simpa using ct
      refine ae<|ad U<|z2<|zg<|zm (x:=.bool _) U ?_
      rw[hbad (by unfold jK;rw[hjall,hkall,dt];rfl)]
     ·have dt:eE f b.term=true:=by simpa using ct
      refine zf<|aW<|aC U U<|aa U<|z2 ?_
      exact ⟨i+1,bW,aL,aE,⟨hi2,bS hi2 hall (by rw[hbi];unfold jK;rw[hjall,hkall,dt];rfl)⟩,by omega⟩
 ·have hin:i=f.blocks.length:=by simp at ci;omega
  rw[hin,w4] at hall
  refine y4<|ae<|ad U<|z2<|zg<|zm (x:=.bool _) U ?_
  rw[hall]
end
end Go.Proofs.YtbbonnfjealmpaaGreatDoor
