/- The document's table of blocks, its checks of sums; its rules. Of programs that are little. -/
import Derived.Test.YtbanfokidalbaaaGreatDoorJm
import Derived.Test.YtbanfokidalbaaaGreatDoorJe
import Derived.Test.YtbanfokidalbaaaGreatDoorJl
import Derived.Test.YtbanfokidalbaaaGreatDoorJd
import Derived.Test.YtbanfokidalbaaaGreatDoorJf
set_option linter.unusedVariables false
set_option linter.unusedSimpArgs false
set_option linter.unusedSectionVars false
namespace Go.Proofs.YtbanfokidalbaaaGreatDoor
section
open Go.Proofs.Tryz
open Go.Proofs Go.Lib Go.Shelf Go.RowKit
variable {E:World}
set_option maxRecDepth 20000
theorem Gg {f:ad} {x:aN} {m:Nat} (e:x.op=1) (h:m<(gR f x).length):(gR f x)[m]=bJ f x.dst:=by
 have h2:(gR f x)[m]?=some (bJ f x.dst):=by
  unfold gR at h ⊢
  rw[if_pos e] at h ⊢
  simp at h
  subst h;rfl
 rw[qq h] at h2
 exact Option.some.inj h2
theorem Gh {f:ad} {x:aN} {m:Nat} (e:¬x.op=1) (h:m<(gR f x).length) (h':m<(bq x.op).length):(gR f x)[m]=(bq x.op)[m]:=by
 have h2:(gR f x)[m]?=some ((bq x.op)[m]):=by
  unfold gR
  rw[if_neg e,qq h']
 rw[qq h] at h2
 exact Option.some.inj h2
theorem DX {f:ad} {t:gA} (h:cC f t=true):t.kind=0∨t.kind=1∨t.kind=2:=by
 unfold cC at h
 by_cases h0:t.kind=0
 ·exact .inl h0
 ·rw[if_neg h0] at h
  by_cases h1:t.kind=1
  ·exact .inr (.inl h1)
  ·rw[if_neg h1] at h
   by_cases h2:t.kind=2
   ·exact .inr (.inr h2)
   ·rw[if_neg h2] at h;cases h
set_option maxHeartbeats 8000000 in
theorem sR (f:ad) (hf:small f) (hS:bx f):aJ prog E 83 [.agg (bL f)] (.bool (f.blocks.all (kA f))):=by
 have hn:=hf.2.2.1
 refine zo func83 Z (by decide) Z<|ah<|yb (cs:=_) Z Z Z<|ac Z<|z6<|zc<|ah<|ae je Z Ze Z Z<|aI Zl Z<|ak jk Z<|aa Z<|z6<|zh<|ya (γ:=Nat) [1,16,17] (fun i=>[(18,.int .i64 i)]) (fun i=>[]) (fun i=>i≤f.blocks.length∧(f.blocks.take i).all (kA f)=true) (fun i=>f.blocks.length - i) 0 aG aC (⟨qt _,Z⟩) ?_
 rintro i ⟨hi,hall⟩
 refine ah<|aw Z Z<|z6<|zc<|zp Z (fun ci=>?_) (fun ci=>?_)
 ·have hi2:i<f.blocks.length:=by simp at ci;omega
  obtain ⟨b,hbi⟩:∃b,f.blocks[i]=b:=⟨_,rfl⟩
  have hget:f.blocks[i]?=some b:=by rw[qq hi2,hbi]
  have hmem:b∈f.blocks:=hbi▸qu hi2
  obtain ⟨hb0,hb1,hb2,hb3,hb4⟩:=hf.2.2.2.2 b hmem
  obtain ⟨hPh,hIn,hTm⟩:=hS.2.2.2.2.2 b hmem
  have hbad:kA f b=false→f.blocks.all (kA f)=false:=fun h=>Bool.eq_false_iff.2 (dD hi2 (by rw[hbi];exact h))
  refine zd<|zc<|zh<|ah<|za (bD i jk jv Z Z Z hget)<|ab Yk jv Z Z<|zy (cs:=[.str ⟨#[]⟩,.raw (.slice none 0 0),.raw (.slice none 0 0),.int .i64 0,.int .i64 0,.int .i64 0,.int .i64 0]) Zn Z Z<|fun i4=>zq jv Z Z Z Z Z Z .head Z<|zf (yd (t:=4) Z .head)<|z6<|zc<|ah<|ae jl Z Yh Z Z<|aI Yt Z<|ak Z2 Z<|aa Z<|z6<|zh<|ya (γ:=Nat) [1,4,16,17,18,23,24] (fun j=>[(25,.int .i64 j)]) (fun j=>[]) (fun j=>j≤b.phis.length∧(b.phis.take j).all (uH f)=true) (fun j=>b.phis.length - j) 0 aG aC (⟨qt _,Z⟩) ?_
  rintro j ⟨hj,hjall⟩
  refine ah<|aw Z Z<|z6<|zc<|zp Z (fun cj=>?_) (fun cj=>?_)
  ·have hj2:j<b.phis.length:=by simp at cj;omega
   obtain ⟨p,hp⟩:∃p,b.phis[j]=p:=⟨_,rfl⟩
   have hpm:p∈b.phis:=hp▸qu hj2
   obtain ⟨hpd,hpl,hpn,hpa,hpf⟩:=hPh p hpm
   have hpb:=(hb3 p hpm).1
   refine zd<|zc<|zh<|ah<|za (bD j Z2 jz Z Z Z (by rw[qq hj2,hp])) ?_
   refine ab Yl jz Z Z<|zy (cs:=[.int .i64 0,.raw (.slice none 0 0),.raw (.slice none 0 0)]) Zb Z Z<|fun i6=>zq jz Z Z Z Z Z Z .head Z<|zf (yd (t:=6) Z .head)<|z6<|ah<|ae jt Z jg Z Z<|aI jn Z<|ak j9 Z<|aa Z<|z6<|zh<|ya (γ:=Nat) [1,4,6,16,17,18,23,24,25,30,31] (fun k=>[(32,.int .i64 k)]) (fun k=>[]) (fun k=>k≤p.args.length∧(p.args.take k).all (fun v=>decide (bJ f v=bJ f p.dst))=true) (fun k=>p.args.length - k) 0 aG aC (⟨qt _,Z⟩) ?_
   rintro k ⟨hk,hkall⟩
   refine ah<|aw Z Z<|z6<|zc<|zp Z (fun ck=>?_) (fun ck=>?_)
   ·have hk2:k<p.args.length:=by simp at ck;omega
    obtain ⟨v,hv⟩:∃v,p.args[k]=v:=⟨_,rfl⟩
    have hvv:=List.all_eq_true.1 hpa v (hv▸qu hk2)
    refine zd<|zc<|zh<|ah<|za (bD k j9 ja Z Z Z (by rw[qq hk2,hv])) ?_
    refine ax jc Z<|ay Z<|z6<|zc<|y7 (fun j=>false) (by kernel_rfl) Z (zn (.rest _))<|au 0 Z (yk jm jh Z Z)<|au 1 Z (cG Z)<|au 3 Z (yk jm jh Z Z)<|au 4 Z (cA jt Z ja Z Z)<|au 5 Z (du jc Z)<|aV 2 Z<|ze (fO f v hvv) Z<|z6<|aV 6 Z<|ze (fO f p.dst hpd) Z<|z6<|au 7 Z (qn Z Z)<|bY<|zt Z (fun cq=>?_) (fun cq=>?_)
    ·have hq:¬bJ f v=bJ f p.dst:=by simpa using cq
     have hph:uH f p=false:=by
      unfold uH
      rw[show (p.args.any fun v=>!decide (bJ f v=bJ f p.dst))=true from List.any_eq_true.2 ⟨v,hv▸qu hk2,by simp[hq]⟩];rfl
     refine ah<|ac Z<|z6<|zg<|zk (x:=.bool _) Z ?_
     rw[hbad (by unfold kA;rw[show b.phis.all (uH f)=false from Bool.eq_false_iff.2 (dD hj2 (by rw[hp];exact hph))];rfl)]
    ·have hq:bJ f v=bJ f p.dst:=by simpa using cq
     refine zd<|aM<|aA Z Z<|aa Z<|z6 ?_
     exact ⟨k+1,la,aG,aC,⟨hk2,bZ hk2 hkall (by rw[hv];simp[hq])⟩,by omega⟩
   ·have hkn:k=p.args.length:=by simp at ck;omega
    rw[hkn,qv] at hkall
    have hph:uH f p=true:=by
     unfold uH
     rw[show (p.args.any fun v=>!decide (bJ f v=bJ f p.dst))=false from List.any_eq_false.2 fun v hv=>by have:=List.all_eq_true.1 hkall v hv;simpa using this];rfl
    refine y9<|aM<|aA Z Z<|aa Z<|z6 ?_
    exact ⟨j+1,km,aG,aC,⟨hj2,bZ hj2 hjall (by rw[hp];exact hph)⟩,by omega⟩
  ·have hjn:j=b.phis.length:=by simp at cj;omega
   subst hjn
   rw[qv] at hjall
   refine y9<|zc<|ah<|ae jl Z Y8 Z Z<|aI Yi Z<|ak jx Z<|aa Z<|z6<|zh<|ya (γ:=Nat) [1,4,16,17,18,47,48] (fun k=>[(49,.int .i64 k)]) (fun k=>[]) (fun k=>k≤b.insts.length∧(b.insts.take k).all (iC f)=true) (fun k=>b.insts.length - k) 0 aG aC (⟨qt _,Z⟩) ?_
   rintro k ⟨hk,hkall⟩
   refine ah<|aw Z Z<|z6<|zc<|zp Z (fun ck=>?_) (fun ck=>?_)
   ·have hk2:k<b.insts.length:=by simp at ck;omega
    obtain ⟨z,hz⟩:∃z,b.insts[k]=z:=⟨_,rfl⟩
    have hzm:z∈b.insts:=hz▸qu hk2
    have hI:=fk (hIn z hzm)
    have hzl:=hb4 z hzm
    have hwl:=DW hI
    have hdst:eK z.op=true→bz f z.dst=true:=fun h=>by
     rcases hI.dst with ⟨d1,_⟩|⟨_,_,d3⟩
     ·rw[h] at d1;cases d1
     ·exact d3
    have hcopy:z.op=1→eK z.op=true:=fun h=>by rw[h];rfl
    have hib:iC f z=false→f.blocks.all (kA f)=false:=fun h=>hbad (by unfold kA;rw[hjall,show b.insts.all (iC f)=false from Bool.eq_false_iff.2 (dD hk2 (by rw[hz];exact h))];rfl)
    refine zd<|zc<|zh<|ah<|za (bD k jx Z9 Z Z Z (by rw[qq hk2,hz])) ?_
    refine ab Ye Z9 Z Z<|zy (cs:=[.int .i64 0,.int .i64 0,.raw (.slice none 0 0),.int .i64 0]) Yf Z Z<|fun i10=>zq Z9 Z Z Z Z Z Z .head Z<|zf (yd (t:=10) Z .head)<|z6<|zc<|yf (γ:=Nat) [1,4,10,16,17,18,47,48,49] (fun g=>[(11,.po g 0)]) (fun g=>[(g,.cells 214 (sF (b9 z.op)))]) (fun g=>True) ?_ (fun _ _ h=>h) ?_
    ·refine y7 (fun j=>false) (by kernel_rfl) Z (zn (.rest _))<|au 1 Z (cA j8 Z Zq Z Z)<|au 2 Z (du Zz Z)<|yv (i:=0) (j:=5) Z Z (by kernel_rfl) ?_ ?_
     ·refine ze (lP) Z<|z6<|au 3 Z (bD z.op.toNat underlying215 Yu Z Z (by have:=hI.op;omega) (wK hI.op))<|au 4 Z (yk isAgg214 Yu Z Z)<|aV 5 Z<|zy (cs:=[.str ⟨#[]⟩,.str ⟨#[]⟩,.str ⟨#[]⟩]) Xa Z Z<|fun i11=>z6<|aV 6 Z<|zq Yu Z Z Z Z Z Z .head Z<|z6<|bY ?_
      exact ⟨i11,nK,aG,aC,trivial⟩
     ·refine zy (cs:=[.str ⟨#[]⟩,.str ⟨#[]⟩,.str ⟨#[]⟩]) Xa Z Z<|fun i11=>z6<|aV 0 Z<|ze (lP) Z<|z6<|au 3 Z (bD z.op.toNat underlying215 Yu Z Z (by have:=hI.op;omega) (wK hI.op))<|au 4 Z (yk isAgg214 Yu Z Z)<|aV 6 Z<|zq Yu Z Z Z Z Z Z .head Z<|z6<|bY ?_
      exact ⟨i11,nK,aG,aC,trivial⟩
    ·rintro i11 _
     refine zc<|ah<|ae j8 Z jg Z Z<|aI jn Z<|ak j9 Z<|aa Z<|z6<|zh<|ya (γ:=Nat) [1,4,10,11,16,17,18,47,48,49,60] (fun m=>[(61,.int .i64 m)]) (fun m=>[(i11,.cells 214 (sF (b9 z.op)))]) (fun m=>m≤z.args.length∧(z.args.take m).map (bJ f)=(gR f z).take m) (fun m=>z.args.length - m) 0 aG aC (⟨qt _,by simp⟩) ?_
     rintro m ⟨hm,hmall⟩
     refine ah<|aw Z Z<|z6<|zc<|zp Z (fun cm=>?_) (fun cm=>?_)
     ·have hm2:m<z.args.length:=by simp at cm;omega
      have hmw:m<(gR f z).length:=by omega
      have hmt:m<(bq z.op).length:=by have:=hI.len;omega
      obtain ⟨v,hv⟩:∃v,z.args[m]=v:=⟨_,rfl⟩
      have hvv:=hI.args v (hv▸qu hm2)
      obtain ⟨c,hc,hct⟩:=As hmt
      have hbadm:¬bJ f v=(gR f z)[m]→f.blocks.all (kA f)=false:=fun h=>hib (by rw[rH hI,w8 (FN hm2 hmw (by rw[hv];exact h))];rfl)
      refine zd<|zc<|zh<|ah<|aa Z<|ay Z<|z6<|ah<|za (zr Y7 Z Y6 (by decide) Z Z)<|za (zw (c:=.str _) Ym Z ⟨_,.head⟩ Z)<|aa Z<|za (Gv.indexT (j:=m) Zw Z Z Z hc)<|ze (rG (c.toNat:Int)) Z<|ay Z<|z6<|zc<|ah<|za (zr Y7 Z Y6 (by decide) Z Z)<|za (zw (c:=.str _) Ym Z ⟨_,.head⟩ Z)<|za (Gv.eqlT Z Z)<|z6<|zt Z (fun cw=>?_) (fun cw=>?_)
      ·have ew:z.op=1:=(pA hI.op).1 (by simpa using cw)
       refine aM<|ab jm jh Z Z<|ae j8 Z ja Z Z<|ax jc Z<|ze (fO f z.dst (hdst (hcopy ew))) Z<|ay Z<|z6<|zc<|y7 (fun j=>false) (by kernel_rfl) Z (zn (.rest _))<|au 0 Z (yk jm jh Z Z)<|au 1 Z (cA j8 Z jg Z Z)<|au 2 Z (iS jn Z)<|au 3 Z (cG Z)<|au 4 Z (bD m j9 ja Z Z Z (by rw[qq hm2,hv])) ?_
       refine au 5 Z (du jc Z)<|au 7 Z (cG Z)<|aV 6 Z<|ze (fO f v hvv) Z<|z6<|au 8 Z (qn Z Z)<|bY<|zt Z (fun cq=>?_) (fun cq=>?_)
       ·have hq:¬bJ f v=bJ f z.dst:=by simpa using cq
        refine ah<|ac Z<|z6<|zg<|zk (x:=.bool _) Z ?_
        rw[hbadm (by rw[Gg ew hmw];exact hq)]
       ·have hq:bJ f v=bJ f z.dst:=by simpa using cq
        refine zd<|aM<|aA Z Z<|aa Z<|z6 ?_
        exact ⟨m+1,la,aG,aC,⟨hm2,jK hm2 hmw hmall (by rw[hv,Gg ew hmw];exact hq)⟩,by omega⟩
      ·have ew:¬z.op=1:=fun e=>by have:=(pA hI.op).2 e;simp[this] at cw
       refine zd<|zc<|y7 (fun j=>false) (by kernel_rfl) Z (zn (.rest _))<|au 0 Z (yk jm jh Z Z)<|au 1 Z (cA j8 Z jg Z Z)<|au 2 Z (iS jn Z)<|au 3 Z (cG Z)<|au 4 Z (bD m j9 ja Z Z Z (by rw[qq hm2,hv])) ?_
       refine au 5 Z (du jc Z)<|au 7 Z (cG Z)<|aV 6 Z<|ze (fO f v hvv) Z<|z6<|au 8 Z (qn Z Z)<|bY<|zt Z (fun cq=>?_) (fun cq=>?_)
       ·have hq:¬bJ f v=d6 (c.toNat:Int):=by simpa using cq
        refine ah<|ac Z<|z6<|zg<|zk (x:=.bool _) Z ?_
        rw[hbadm (by rw[Gh ew hmw hmt,hct];exact hq)]
       ·have hq:bJ f v=d6 (c.toNat:Int):=by simpa using cq
        refine zd<|aM<|aA Z Z<|aa Z<|z6 ?_
        exact ⟨m+1,la,aG,aC,⟨hm2,jK hm2 hmw hmall (by rw[hv,Gh ew hmw hmt,hct];exact hq)⟩,by omega⟩
     ·have hmn:m=z.args.length:=by simp at cm;omega
      have hall2:z.args.map (bJ f)=gR f z:=by rw[hmn,qv,hwl,qv] at hmall;exact hmall
      have hiw:=rH hI
      rw[w7 hall2,Bool.true_and] at hiw
      refine y9<|zc<|y7 (fun j=>false) (by kernel_rfl) Z (zn (.r (.rest _)))<|au 0 Z (zr Y7 Z Y6 (by decide) Z Z)<|au 1 Z (zw (c:=.str _) Ym Z ⟨_,.head⟩ Z)<|au 2 Z (Gv.neqT Z Z)<|au 3 Z (l5 Z)<|q4 (s:=89) Z (fun c1=>?_) (fun c1=>?_)
      ·have d1:¬(b9 z.op).2.2=⟨#[]⟩:=by simpa using c1
       have dm:eK z.op=true:=by rw[lQ,w8 d1];rfl
       obtain ⟨c,hc,hct⟩:=Au d1
       refine bB 4 Z Z Z c1 (zr Y7 Z Y6 (by decide) Z Z)<|bB 5 Z Z Z c1 (zw (c:=.str _) Ym Z ⟨_,.head⟩ Z)<|bB 6 Z Z Z c1 (Gv.neqT Z Z)<|au 7 Z (oB Z c1 Z)<|au 8 Z (l5 Z)<|q4 (s:=94) Z (fun c2=>?_) (fun c2=>?_)
       ·have ew:¬z.op=1:=fun e=>by have:=(pA hI.op).2 e;simp[this] at c2
        refine bB 9 Z Z Z c2 (yk jm jh Z Z)<|bB 10 Z Z Z c2 (cA j8 Z ja Z Z)<|bB 11 Z Z Z c2 (du jc Z)<|bB 13 Z Z Z c2 (zr Y7 Z Y6 (by decide) Z Z)<|bB 14 Z Z Z c2 (zw (c:=.str _) Ym Z ⟨_,.head⟩ Z)<|bB 15 Z Z Z c2 (Gv.indexT (j:=0) Zw Z Z Z hc)<|aV 12 Z<|z8 Z Z c2<|ze (fO f z.dst (hdst dm)) Z<|z6<|aV 16 Z<|z8 Z Z c2<|ze (rG (c.toNat:Int)) Z<|z6<|bB 17 Z Z Z c2 (qn Z Z)<|au 18 Z (oB Z c2 Z)<|bY<|zt Z (fun cq=>?_) (fun cq=>?_)
        ·have hq:¬bJ f z.dst=d6 (c.toNat:Int):=by simpa using cq
         refine ah<|ac Z<|z6<|zg<|zk (x:=.bool _) Z ?_
         rw[hib (by rw[hiw,dm,w8 ew,hct,w8 hq];rfl)]
        ·have hq:bJ f z.dst=d6 (c.toNat:Int):=by simpa using cq
         refine zd<|aM<|aA Z Z<|aa Z<|z6 ?_
         exact ⟨k+1,km,aG,⟨_,(.drop (.refl _)),rfl⟩,⟨hk2,bZ hk2 hkall (by rw[hz,hiw,hct,w7 hq];simp)⟩,by omega⟩
       ·have ew:z.op=1:=(pA hI.op).1 (by simpa using c2)
        refine bi 9 Z Z Z c2<|bi 10 Z Z Z c2<|bi 11 Z Z Z c2<|bi 12 Z Z Z c2<|bi 13 Z Z Z c2<|bi 14 Z Z Z c2<|bi 15 Z Z Z c2<|bi 16 Z Z Z c2<|bi 17 Z Z Z c2<|au 18 Z (kY Z c2 Z)<|bY<|yj Z Z<|zd<|aM<|aA Z Z<|aa Z<|z6 ?_
        exact ⟨k+1,km,aG,⟨_,(.drop (.refl _)),rfl⟩,⟨hk2,bZ hk2 hkall (by rw[hz,hiw,w7 ew];simp)⟩,by omega⟩
      ·have d1:(b9 z.op).2.2=⟨#[]⟩:=by simpa using c1
       have dm:eK z.op=false:=by rw[lQ,w7 d1];rfl
       refine bi 4 Z Z Z c1<|bi 5 Z Z Z c1<|bi 6 Z Z Z c1<|au 7 Z (kY Z c1 Z)<|au 8 Z (l5 Z)<|bi 9 Z Z Z Z<|bi 10 Z Z Z Z<|bi 11 Z Z Z Z<|bi 12 Z Z Z Z<|bi 13 Z Z Z Z<|bi 14 Z Z Z Z<|bi 15 Z Z Z Z<|bi 16 Z Z Z Z<|bi 17 Z Z Z Z<|au 18 Z (kY Z Z Z)<|bY<|yj Z Z<|zd<|aM<|aA Z Z<|aa Z<|z6 ?_
       exact ⟨k+1,km,aG,⟨_,(.drop (.refl _)),rfl⟩,⟨hk2,bZ hk2 hkall (by rw[hz,hiw,dm];rfl)⟩,by omega⟩
   ·have hkn:k=b.insts.length:=by simp at ck;omega
    rw[hkn,qv] at hkall
    refine y9<|ah<|ae jl Z Ya Z Z<|ab isAgg49 Ya Z Z<|zy (cs:=[.int .i64 0,.int .i64 0,.int .i64 0,.int .i64 0]) zeroValue49 Z Z<|fun i14=>zq Ya Z Z Z Z Z Z .head Z<|zf (yd (t:=14) Z .head)<|z6<|zc<|yf (γ:=Bool) [1,16,17,18] (fun u=>[(152,.bool u)]) (fun u=>[]) (fun u=>u=!eg f b.term) ?_ (fun _ _ h=>h) ?_
    ·have hk3:=DX hTm
     refine aM<|ae jj Z Yg Z Z<|ax Ys Z<|aj Z Z<|ai Z<|zm (s:=111) Z (fun c1=>?_) (fun c1=>?_)
     ·refine z8 Z Z c1<|ab jm jh Z Z<|z8 Z Z c1<|ae jj Z ja Z Z<|z8 Z Z c1<|ax jc Z<|z8 Z Z c1<|ze (fO f b.term.var (jV hTm (by simp_all))) Z<|z8 Z Z c1<|aH Z Z<|ap Z c1 Z<|ai Z<|zm (s:=118) Z (fun c2=>?_) (fun c2=>?_)
      ·refine z7 Z Z c2<|z7 Z Z c2<|z7 Z Z c2<|z7 Z Z c2<|zb Z Z<|zb Z Z<|zb Z Z<|zb Z Z<|zb Z Z<|zb Z Z<|zb Z Z<|zb Z Z<|zb Z Z<|zb Z Z<|zb Z Z<|zb Z Z<|zb Z Z<|zb Z Z<|zb Z Z<|zb Z Z<|zb Z Z<|z7 Z Z c2<|ap Z c2 Z<|ai Z<|z7 Z Z Z<|z7 Z Z Z<|z7 Z Z Z<|z7 Z Z Z<|zb Z Z<|zb Z Z<|zb Z Z<|zb Z Z<|z7 Z Z Z<|ap Z Z Z<|z6 ?_
       exact ⟨_,e7,aG,aC,by simp_all[eg]<;>omega⟩
      ·refine z8 Z Z c2<|ae jj Z Yg Z Z<|z8 Z Z c2<|ax Ys Z<|z8 Z Z c2<|aj Z Z<|z8 Z Z c2<|ai Z<|zm (s:=122) Z (fun c3=>?_) (fun c3=>?_)
       ·refine z8 Z Z c3<|ab jm jh Z Z<|z8 Z Z c3<|ae jj Z ja Z Z<|z8 Z Z c3<|ax jc Z<|z8 Z Z c3<|ze (fO f b.term.var (jV hTm (by simp_all))) Z<|z8 Z Z c3<|aH Z Z<|z8 Z Z c3<|ai Z<|zm (s:=128) Z (fun c4=>?_) (fun c4=>?_)
        ·refine z7 Z Z c4<|z7 Z Z c4<|z7 Z Z c4<|z7 Z Z c4<|z8 Z Z c3<|ap Z c4 Z<|z8 Z Z c3<|ai Z<|z7 Z Z Z<|z7 Z Z Z<|z7 Z Z Z<|z7 Z Z Z<|z8 Z Z c3<|ap Z Z Z<|z8 Z Z c2<|ap Z c3 Z<|aq Z c2 Z<|ai Z<|z7 Z Z Z<|z7 Z Z Z<|z7 Z Z Z<|z7 Z Z Z<|zb Z Z<|zb Z Z<|zb Z Z<|zb Z Z<|z7 Z Z Z<|ap Z Z Z<|z6 ?_
         exact ⟨_,e7,aG,aC,by simp_all[eg]<;>omega⟩
        ·refine z8 Z Z c4<|ae jj Z Zk Z Z<|z8 Z Z c4<|za (yp (j:=0) Z4 ja Z Z Z (by decide) Z)<|z8 Z Z c4<|ax jc Z<|z8 Z Z c4<|aj Z Z<|z8 Z Z c3<|aq Z c4 Z<|z8 Z Z c3<|ai Z<|zm (s:=134) Z (fun c5=>?_) (fun c5=>?_)
         ·refine z7 Z Z c5<|z7 Z Z c5<|z7 Z Z c5<|z7 Z Z c5<|z8 Z Z c3<|ap Z c5 Z<|z8 Z Z c2<|ap Z c3 Z<|aq Z c2 Z<|ai Z<|z7 Z Z Z<|z7 Z Z Z<|z7 Z Z Z<|z7 Z Z Z<|zb Z Z<|zb Z Z<|zb Z Z<|zb Z Z<|z7 Z Z Z<|ap Z Z Z<|z6 ?_
          exact ⟨_,e7,aG,aC,by simp_all[eg]<;>omega⟩
         ·refine z8 Z Z c5<|ae jj Z Zk Z Z<|z8 Z Z c5<|za (yp (j:=1) Z4 ja Z Z Z (by decide) Z)<|z8 Z Z c5<|ax jc Z<|z8 Z Z c5<|aj Z Z<|z8 Z Z c3<|aq Z c5 Z<|z8 Z Z c2<|ap Z c3 Z<|aq Z c2 Z<|ai Z<|zm (s:=142) Z (fun c6=>?_) (fun c6=>?_)
          ·refine z7 Z Z c6<|z7 Z Z c6<|z7 Z Z c6<|z7 Z Z c6<|zb Z Z<|zb Z Z<|zb Z Z<|zb Z Z<|z7 Z Z c6<|ap Z c6 Z<|z6 ?_
           exact ⟨_,e7,aG,aC,by simp_all[eg]<;>omega⟩
          ·refine z8 Z Z c6<|ae jj Z Yg Z Z<|z8 Z Z c6<|ax Ys Z<|z8 Z Z c6<|aj Z Z<|z8 Z Z c6<|ai Z<|zm (s:=146) Z (fun c7=>?_) (fun c7=>?_)
           ·refine z8 Z Z c7<|ae jj Z Zk Z Z<|z8 Z Z c7<|za (yp (j:=0) Z4 ja Z Z Z (by decide) Z)<|z8 Z Z c7<|ax jc Z<|z8 Z Z c7<|aj Z Z<|z8 Z Z c6<|ap Z c7 Z<|aq Z c6 Z<|z6 ?_
            exact ⟨_,e7,aG,aC,by simp_all[eg]<;>omega⟩
           ·refine z7 Z Z c7<|z7 Z Z c7<|z7 Z Z c7<|z7 Z Z c7<|z8 Z Z c6<|aq Z c7 Z<|aq Z c6 Z<|z6 ?_
            exact ⟨_,e7,aG,aC,by simp_all[eg]<;>omega⟩
       ·refine z7 Z Z c3<|z7 Z Z c3<|z7 Z Z c3<|z7 Z Z c3<|z7 Z Z c3<|z7 Z Z c3<|zb Z Z<|zb Z Z<|zb Z Z<|zb Z Z<|z7 Z Z c3<|z7 Z Z c3<|zb Z Z<|zb Z Z<|zb Z Z<|zb Z Z<|z7 Z Z c3<|z8 Z Z c2<|aq Z c3 Z<|aq Z c2 Z<|ai Z<|z8 Z Z Z<|ae jj Z Yg Z Z<|z8 Z Z Z<|ax Ys Z<|z8 Z Z Z<|aj Z Z<|z8 Z Z Z<|ai Z<|zm (s:=146) Z (fun c8=>?_) (fun c8=>?_)
        ·refine z8 Z Z c8<|ae jj Z Zk Z Z<|z8 Z Z c8<|za (yp (j:=0) Z4 ja Z Z Z (by decide) Z)<|z8 Z Z c8<|ax jc Z<|z8 Z Z c8<|aj Z Z<|z8 Z Z Z<|ap Z c8 Z<|aq Z Z Z<|z6 ?_
         exact ⟨_,e7,aG,aC,by simp_all[eg]<;>omega⟩
        ·refine z7 Z Z c8<|z7 Z Z c8<|z7 Z Z c8<|z7 Z Z c8<|z8 Z Z Z<|aq Z c8 Z<|aq Z Z Z<|z6 ?_
         exact ⟨_,e7,aG,aC,by simp_all[eg]<;>omega⟩
     ·refine z7 Z Z c1<|z7 Z Z c1<|z7 Z Z c1<|z7 Z Z c1<|z7 Z Z c1<|aq Z c1 Z<|ai Z<|z8 Z Z Z<|ae jj Z Yg Z Z<|z8 Z Z Z<|ax Ys Z<|z8 Z Z Z<|aj Z Z<|z8 Z Z Z<|ai Z<|zm (s:=122) Z (fun c9=>?_) (fun c9=>?_)
      ·refine z8 Z Z c9<|ab jm jh Z Z<|z8 Z Z c9<|ae jj Z ja Z Z<|z8 Z Z c9<|ax jc Z<|z8 Z Z c9<|ze (fO f b.term.var (jV hTm (by simp_all))) Z<|z8 Z Z c9<|aH Z Z<|z8 Z Z c9<|ai Z<|zm (s:=128) Z (fun c10=>?_) (fun c10=>?_)
       ·refine z7 Z Z c10<|z7 Z Z c10<|z7 Z Z c10<|z7 Z Z c10<|z8 Z Z c9<|ap Z c10 Z<|z8 Z Z c9<|ai Z<|z7 Z Z Z<|z7 Z Z Z<|z7 Z Z Z<|z7 Z Z Z<|z8 Z Z c9<|ap Z Z Z<|z8 Z Z Z<|ap Z c9 Z<|aq Z Z Z<|ai Z<|z7 Z Z Z<|z7 Z Z Z<|z7 Z Z Z<|z7 Z Z Z<|zb Z Z<|zb Z Z<|zb Z Z<|zb Z Z<|z7 Z Z Z<|ap Z Z Z<|z6 ?_
        exact ⟨_,e7,aG,aC,by simp_all[eg]<;>omega⟩
       ·refine z8 Z Z c10<|ae jj Z Zk Z Z<|z8 Z Z c10<|za (yp (j:=0) Z4 ja Z Z Z (by decide) Z)<|z8 Z Z c10<|ax jc Z<|z8 Z Z c10<|aj Z Z<|z8 Z Z c9<|aq Z c10 Z<|z8 Z Z c9<|ai Z<|zm (s:=134) Z (fun c11=>?_) (fun c11=>?_)
        ·refine z7 Z Z c11<|z7 Z Z c11<|z7 Z Z c11<|z7 Z Z c11<|z8 Z Z c9<|ap Z c11 Z<|z8 Z Z Z<|ap Z c9 Z<|aq Z Z Z<|ai Z<|z7 Z Z Z<|z7 Z Z Z<|z7 Z Z Z<|z7 Z Z Z<|zb Z Z<|zb Z Z<|zb Z Z<|zb Z Z<|z7 Z Z Z<|ap Z Z Z<|z6 ?_
         exact ⟨_,e7,aG,aC,by simp_all[eg]<;>omega⟩
        ·refine z8 Z Z c11<|ae jj Z Zk Z Z<|z8 Z Z c11<|za (yp (j:=1) Z4 ja Z Z Z (by decide) Z)<|z8 Z Z c11<|ax jc Z<|z8 Z Z c11<|aj Z Z<|z8 Z Z c9<|aq Z c11 Z<|z8 Z Z Z<|ap Z c9 Z<|aq Z Z Z<|ai Z<|zm (s:=142) Z (fun c12=>?_) (fun c12=>?_)
         ·refine z7 Z Z c12<|z7 Z Z c12<|z7 Z Z c12<|z7 Z Z c12<|zb Z Z<|zb Z Z<|zb Z Z<|zb Z Z<|z7 Z Z c12<|ap Z c12 Z<|z6 ?_
          exact ⟨_,e7,aG,aC,by simp_all[eg]<;>omega⟩
         ·refine z8 Z Z c12<|ae jj Z Yg Z Z<|z8 Z Z c12<|ax Ys Z<|z8 Z Z c12<|aj Z Z<|z8 Z Z c12<|ai Z<|zm (s:=146) Z (fun c13=>?_) (fun c13=>?_)
          ·refine z8 Z Z c13<|ae jj Z Zk Z Z<|z8 Z Z c13<|za (yp (j:=0) Z4 ja Z Z Z (by decide) Z)<|z8 Z Z c13<|ax jc Z<|z8 Z Z c13<|aj Z Z<|z8 Z Z c12<|ap Z c13 Z<|aq Z c12 Z<|z6 ?_
           exact ⟨_,e7,aG,aC,by simp_all[eg]<;>omega⟩
          ·refine z7 Z Z c13<|z7 Z Z c13<|z7 Z Z c13<|z7 Z Z c13<|z8 Z Z c12<|aq Z c13 Z<|aq Z c12 Z<|z6 ?_
           exact ⟨_,e7,aG,aC,by simp_all[eg]<;>omega⟩
      ·refine z7 Z Z c9<|z7 Z Z c9<|z7 Z Z c9<|z7 Z Z c9<|z7 Z Z c9<|z7 Z Z c9<|zb Z Z<|zb Z Z<|zb Z Z<|zb Z Z<|z7 Z Z c9<|z7 Z Z c9<|zb Z Z<|zb Z Z<|zb Z Z<|zb Z Z<|z7 Z Z c9<|z8 Z Z Z<|aq Z c9 Z<|aq Z Z Z<|ai Z<|z8 Z Z Z<|ae jj Z Yg Z Z<|z8 Z Z Z<|ax Ys Z<|z8 Z Z Z<|aj Z Z<|z8 Z Z Z<|ai Z<|zm (s:=146) Z (fun c14=>?_) (fun c14=>?_)
       ·refine z8 Z Z c14<|ae jj Z Zk Z Z<|z8 Z Z c14<|za (yp (j:=0) Z4 ja Z Z Z (by decide) Z)<|z8 Z Z c14<|ax jc Z<|z8 Z Z c14<|aj Z Z<|z8 Z Z Z<|ap Z c14 Z<|aq Z Z Z<|z6 ?_
        exact ⟨_,e7,aG,aC,by simp_all[eg]<;>omega⟩
       ·refine z7 Z Z c14<|z7 Z Z c14<|z7 Z Z c14<|z7 Z Z c14<|z8 Z Z Z<|aq Z c14 Z<|aq Z Z Z<|z6 ?_
        exact ⟨_,e7,aG,aC,by simp_all[eg]<;>omega⟩
    ·rintro u hu
     subst hu
     refine zt Z (fun ct=>?_) (fun ct=>?_)
     ·have dt:eg f b.term=false:=by simpa using ct
      refine ah<|ac Z<|z6<|zg<|zk (x:=.bool _) Z ?_
      rw[hbad (by unfold kA;rw[hjall,hkall,dt];rfl)]
     ·have dt:eg f b.term=true:=by simpa using ct
      refine zd<|aM<|aA Z Z<|aa Z<|z6 ?_
      exact ⟨i+1,dC,aG,aC,⟨hi2,bZ hi2 hall (by rw[hbi];unfold kA;rw[hjall,hkall,dt];rfl)⟩,by omega⟩
 ·have hin:i=f.blocks.length:=by simp at ci;omega
  rw[hin,qv] at hall
  refine y9<|ah<|ac Z<|z6<|zg<|zk (x:=.bool _) Z ?_
  rw[hall]
end
section
open Go.Proofs.Tryz
open Go.Proofs
def lC (l:List be):List AV:=eP.av l
theorem uT (l:List be):(lC l).length=l.length*2:=eP.av_len l
theorem BR (l:List be) (r:be):lC l++bg r=lC (l++[r]):=eP.av_push l r
theorem pB (r:be) (l:List be):lC (r::l)=.int .i64 r.1::.int .i64 r.2::lC l:=rfl
theorem uU:∀(l:List be) (j:Nat),(lC l).drop (j*2)=lC (l.drop j)
 |l,0=>by simp
 |[],j+1=>by simp[lC,fj.av]
 |r::l,j+1=>by
  rw[show (j+1)*2=j*2+1+1 by omega,pB,List.drop_succ_cons,List.drop_succ_cons,uU l j,List.drop_succ_cons]
theorem Gi {l:List be} {j:Nat} {r:be} (h:l[j]?=some r):(lC l).drop (j*2)=.int .i64 r.1::.int .i64 r.2::lC (l.drop (j+1)):=by
 obtain ⟨hj,e⟩:=List.getElem?_eq_some_iff.1 h
 rw[uU,List.drop_eq_getElem_cons hj,e,pB]
theorem BS:∀(l:List be) (j:Nat),(lC l).take (j*2)=lC (l.take j)
 |l,0=>by simp[lC,fj.av]
 |[],j+1=>by simp[lC,fj.av]
 |r::l,j+1=>by
  rw[show (j+1)*2=j*2+1+1 by omega,pB,List.take_succ_cons,List.take_succ_cons,BS l j,List.take_succ_cons,pB]
theorem KH {l:List be} {j:Nat} (h:j<l.length) (r:be):(lC l).take (j*2)++bg r++(lC l).drop (j*2+2)=lC (l.set j r):=by
 rw[show j*2+2=(j+1)*2 by omega,BS,uU,BR,List.set_eq_take_append_cons_drop,if_pos h]
 unfold lC
 rw[eP.av_app];simp
theorem JO {l:List be} {j:Nat} (h:j<l.length):lC l≠[]:=fun e=>by have:=uT l;rw[e] at this;simp at this;omega
section
variable {E:World} {P:Program} {ops:Array Oper} {K:aS→OL→Prop} {env:aS} {O O' O'':OL} {rest:List Oper} {n:Nat}
variable {d ty:Nat} {pos:String} {af:Array Edge} {x y z:Operand} {t u e T:TypeId}
theorem Gv.idxR {i n j:Nat} {a:Int} {T:TypeId} {l:List be} (ht:P.underlying t=some (.slice e)) (hs:∀w,(sizeOf e).run P w=.ok 2 w) (hx:bb env x=.own i n) (hy:bb env y=.int .i64 a) (hi:a=(j:Int)) (hO:pm O i (.grow 2 T (lC l))) (hn:l.length=n) (hj:j<n) :
  Gv P env O (Oper.mk (some d) (.indexAddr t x y) ty pos af none) (.po i (j*2)):=Gv.idxO ht hs hx hy hi hO (JO (j:=j) (by omega)) hj
theorem Gv.loadR {i j:Nat} {T:TypeId} {l:List be} {r:be} (ha:∀w,(isAgg t).run P w=.ok true w) (hs:∀w,(sizeOf t).run P w=.ok 2 w) (hx:bb env x=.po i (j*2)) (hO:pm O i (.grow 2 T (lC l))) (hv:l[j]?=some r) :
  Gv P env O (Oper.mk (some d) (.load t x) ty pos af none) (.agg (bg r)):=by
 have hj:=(List.getElem?_eq_some_iff.1 hv).1
 exact Gv.loadAG ha hs hx hO (JO hj) (by rw[uT];omega) (by rw[Gi hv];rfl)
theorem Gv.loadR0 {i j:Nat} {T:TypeId} {l:List be} {r:be} (ha:∀w,(isAgg t).run P w=.ok false w) (hx:bb env x=.po i (j*2+0)) (hO:pm O i (.grow 2 T (lC l))) (hv:l[j]?=some r) :
  Gv P env O (Oper.mk (some d) (.load t x) ty pos af none) (.int .i64 r.1):=Gv.load1G ha hx hO (Gi hv)
theorem az.storeR {i j:Nat} {T:TypeId} {l:List be} {r:be} (hs:∀w,(sizeOf t).run P w=.ok 2 w) (hx:bb env x=.po i (j*2)) (hy:bb env y=.agg (bg r)) (hO:gr O i (.grow 2 T (lC l)) (.grow 2 T (lC (l.set j r))) O') (hb:j<l.length)
  (kk:az P E ops K rest env O'):az P E ops K (Oper.mk none (.store t x y) ty pos af none::rest) env O:=
 az.storeG hs hx hy rfl rfl rfl rfl hO (by rw[uT];omega) (by decide) (KH hb r) kk
theorem aK.knowR {t i m:Nat} {T:TypeId} {l:List be} (hv:env t=.own i m) (hO:dw O i (.grow 2 T (lC l)) O') (hm:l.length=m):aK E env O (bC env t (.fro 2 (l.map bg))) O':=
 aK.know hv (rows:=l.map bg) (by
  have:(l.map bg).flatten=lC l:=by unfold lC fj.av;rw[List.flatMap];rfl
  rw[this];exact hO) (fun r hr=>by obtain ⟨_,_,rfl⟩:=List.mem_map.1 hr;rfl) (by decide) (by rw[qx];exact hm)
end
end
section
open Go.Proofs.Tryz
open Go.Proofs Go.Lib Go.Shelf Go.RowKit
theorem KI:dM prog 82 55 1 1 [.raw (.slice none 0 0)]:=⟨_,underlying82,sizeOf55,zeroValue55,by decide,by decide,by kernel_rfl⟩
variable {E:World}
set_option maxRecDepth 20000
def wM (rows:List (List Bool)):List AV:=(rows.map fun r=>[AV.fro 1 (r.map uN)]).flatten
theorem DY (rows:List (List Bool)) (r:List Bool):wM rows++[AV.fro 1 (r.map uN)]=wM (rows++[r]):=by unfold wM;simp
theorem Gj (rows:List (List Bool)):(wM rows).length=rows.length:=by unfold wM;induction rows with
 |nil=>rfl
 |cons r rows ih=>simp only[List.map_cons,List.flatten_cons,qw,ih,List.length_cons,List.length_nil];omega
def IQ (rows:List (List Bool)):AV:=.fro 1 (rows.map fun r=>[AV.fro 1 (r.map uN)])
set_option maxHeartbeats 4000000 in
theorem l9 (f:ad) (hE:bF f) (hn:f.blocks.length≤1000):aJ prog E 24 [.agg (bL f)] (IQ (mv f)):=by
 have hG:=hE.grph
 refine zo func24 Z (by decide) Z<|ah<|yb (cs:=_) Z Z Z<|bV Z<|z6<|ah<|ab jm jh Z Z<|ze (gV f hE hn (-1)) Z<|za (iw Z)<|z6<|ah<|bV Z<|z6<|zc<|ah<|ae je Z Ze Z Z<|aI Zl Z<|ak jk Z<|aa Z<|z6<|dh (t:=4) (k:=1) (T:=55) Z<|fun i4=>zh<|ya (γ:=Nat × Nat) [1,3,13] (fun g=>[(14,.int .i64 g.1),(4,.own g.2 g.1)]) (fun g=>[(g.2,.grow 1 55 (wM ((mv f).take g.1)))]) (fun g=>g.1≤f.blocks.length) (fun g=>f.blocks.length - g.1) (0,i4) di aC (qt _) ?_
 rintro ⟨k,io⟩ hk
 try dsimp only at *
 refine ah<|aw Z Z<|z6<|zc<|zp Z (fun ck=>?_) (fun ck=>?_)
 ·have hk2:k<f.blocks.length:=by simp at ck;omega
  have hgk:=qG (ao f) hk2 (-1)
  refine zd<|zc<|zh<|ah<|aa Z<|ay Z<|z6<|ah<|ae je Z Ze Z Z<|aI Zl Z<|ak jk Z<|az.makeB (m:=f.blocks.length) Za type4 Z Z Z Z Z (by simp) (by simp) (by show (1:Int)*_≤_;omega) (by omega)<|fun i20=>bM Z<|z6<|zc<|ah<|aU Z<|aa Z<|za (bD k Za Z5 Z Z Z hgk)<|za (yo (c:=.bool _) Zm Z)<|z6<|yf (γ:=Nat) [1,3,4,13,14] (fun q=>[(6,.own q f.blocks.length)]) (fun q=>[(q,.grow 1 4 (cB (oW f k))),(io,.grow 1 55 (wM ((mv f).take k)))]) (fun q=>True) ?_ (fun _ _ h=>h) ?_
  ·refine zt Z (fun cr=>?_) (fun cr=>?_)
   ·have hra:gb (em (ao f) f.blocks.length (-1)) (k:Int)=true:=cr
    refine ah<|ab jm jh Z Z<|aa Z<|ze (gV f hE hn (k:Int)) Z<|za (iw Z)<|z6<|ah<|bw Z<|za (Gv.lenO Za Z)<|aa Z<|z6<|zh<|ya (γ:=Nat) [1,3,4,5,6,7,13,14,29] (fun j=>[(30,.int .i64 j)]) (fun j=>[(i20,.grow 1 4 (cB (kN f k j))),(io,.grow 1 55 (wM ((mv f).take k)))]) (fun j=>j≤f.blocks.length) (fun j=>f.blocks.length - j) 0 aG ⟨_,(.refl _),by rw[←qI]⟩ (qt _) ?_
    rintro j hj
    refine ah<|aw Z Z<|z6<|zc<|zp Z (fun cj=>?_) (fun cj=>?_)
    ·have hj2:j<f.blocks.length:=by simp at cj;omega
     have hgj:=qG (ao f) hj2 (-1)
     have hgl:=qG (ao f) hj2 (k:Int)
     have hcell:=Fm hG hk2 hj2 hra
     refine zd<|zc<|zh<|ah<|aa Z<|ay Z<|z6<|aM<|bw Z<|aa Z<|aU Z<|aa Z<|za (bD j Za Z5 Z Z Z hgj)<|za (yo (c:=.bool _) Zm Z)<|ai Z<|zm (s:=39) Z (fun c1=>?_) (fun c1=>?_)
     ·have d1:gb (em (ao f) f.blocks.length (-1)) (j:Int)=true:=c1
      refine z8 Z Z c1<|aa Z<|z8 Z Z c1<|aa Z<|z8 Z Z c1<|aj Z Z<|z8 Z Z c1<|ai Z<|zm (s:=43) Z (fun c2=>?_) (fun c2=>?_)
      ·refine z7 Z Z c2<|z7 Z Z c2<|z7 Z Z c2<|z7 Z Z c2<|z7 Z Z c2<|z8 Z Z c1<|ap Z c2 Z<|ap Z c1 Z<|za (q0 (j:=j) Za Z5 Z Z Z ⟨_,.head⟩ (by rw[bd,ia]) hj2)<|az.storeB (j:=j) Z5 Z Z .head (by rw[ia];exact hj2)<|z6<|aM<|aA Z Z<|aa Z<|z6 ?_
       exact ⟨j+1,nK,aG,⟨_,(.refl _),by rw[←mw,←hcell,d1,show decide ((k:Int)=(j:Int))=true from c2];rfl⟩,hj2,by omega⟩
      ·refine z8 Z Z c2<|aU Z<|z8 Z Z c2<|aa Z<|z8 Z Z c2<|za (bD j Za Z5 Z Z Z hgl)<|z8 Z Z c2<|za (yo (c:=.bool _) Zm Z)<|z8 Z Z c2<|aF Z<|z8 Z Z c1<|aq Z c2 Z<|ap Z c1 Z<|za (q0 (j:=j) Za Z5 Z Z Z ⟨_,.head⟩ (by rw[bd,ia]) hj2)<|az.storeB (j:=j) Z5 Z Z .head (by rw[ia];exact hj2)<|z6<|aM<|aA Z Z<|aa Z<|z6 ?_
       exact ⟨j+1,nK,aG,⟨_,(.refl _),by rw[←mw,←hcell,d1,show decide ((k:Int)=(j:Int))=false from c2];rfl⟩,hj2,by omega⟩
     ·have d1:gb (em (ao f) f.blocks.length (-1)) (j:Int)=false:=c1
      refine z7 Z Z c1<|z7 Z Z c1<|z7 Z Z c1<|z7 Z Z c1<|zb Z Z<|zb Z Z<|zb Z Z<|zb Z Z<|zb Z Z<|z7 Z Z c1<|aq Z c1 Z<|za (q0 (j:=j) Za Z5 Z Z Z ⟨_,.head⟩ (by rw[bd,ia]) hj2)<|az.storeB (j:=j) Z5 Z Z .head (by rw[ia];exact hj2)<|z6<|aM<|aA Z Z<|aa Z<|z6 ?_
      exact ⟨j+1,nK,aG,⟨_,(.refl _),by rw[←mw,←hcell,d1];rfl⟩,hj2,by omega⟩
    ·have hjn:j=f.blocks.length:=by simp at cj;omega
     refine y9 ?_
     exact ⟨i20,iT,aG,⟨_,(.refl _),by rw[hjn,Di]⟩,trivial⟩
   ·have hra:gb (em (ao f) f.blocks.length (-1)) (k:Int)=false:=cr
    refine zd ?_
    exact ⟨i20,iT,aG,⟨_,(.refl _),by rw[←Fp hG hk2 hra,←qI]⟩,trivial⟩
  ·rintro q _
   refine yg (aK.knowB (t:=6) Z .head (Fq _ _))<|aM<|bw Z<|aU Z<|y8 (rows:=[[_]]) KI Z Z Z Z Z<|yn (k:=1) underlying82 type55 Z Z Z Z Z (fun _=>.head) (by rw[Gj,w6,jT];omega) (by decide) Z (by show (_+1)*24≤_;omega) (by show _+1≤_;omega)<|fun i56=>bM Z<|z6<|aM<|aA Z Z<|aa Z<|z6 ?_
   exact ⟨(k+1,i56),dC,di,⟨_,(.refl _),by rw[Dj hk2,←DY];rfl⟩,hk2,by dsimp only;omega⟩
 ·have hkn:k=f.blocks.length:=by simp at ck;omega
  subst hkn
  rw[show f.blocks.length=(mv f).length from (jT f).symm,qv,jT]
  refine y9<|ah<|bw Z<|bM Z<|z6<|zg ?_
  repeat (first|refine br ?_|refine aZ ?_)
  refine aK.fin (aK.know (t:=2) (rows:=(mv f).map fun r=>[AV.fro 1 (r.map uN)]) Z .head (by (intro r hr;obtain ⟨x,_,rfl⟩:=List.mem_map.1 hr;rfl)) (by decide) (by (rw[qx];exact jT f)))<|zk (x:=.fro _ _) Z ?_
  rfl
end
section
open Go.Proofs.Tryz
open Go.Proofs Go.Lib Go.Shelf Go.RowKit
variable {E:World}
set_option maxRecDepth 20000
theorem Av (x:aN) (op:Int) (args:List Int) (hx:x.args.length≤100000) (ha:args.length≤100000):aJ prog E 129 [.agg (cK x),.int .i64 op,.fro 1 (args.map fa)] (.bool (decide (x.op=op)&&decide (x.args=args))):=by
 refine zo func129 Z (by decide) Z<|ah<|yb (cs:=_) Z Z Z<|ac Z<|z6<|zc<|zc<|yf (γ:=Bool) [2,3] (fun u=>[(19,.bool u)]) (fun u=>[]) (fun u=>u=!(decide (x.op=op)&&decide (x.args.length=args.length))) ?_ (fun _ _ h=>h) ?_
 ·refine aM<|ae j8 Z Zq Z Z<|ax Zz Z<|aa Z<|aH Z Z<|ai Z<|zm (s:=12) Z (fun c1=>?_) (fun c1=>?_)
  ·refine z7 Z Z c1<|z7 Z Z c1<|z7 Z Z c1<|z7 Z Z c1<|z7 Z Z c1<|z7 Z Z c1<|ap Z c1 Z<|z6 ?_
   exact ⟨_,di,aG,aC,by simp_all<;>omega⟩
  ·refine z8 Z Z c1<|ae j8 Z jg Z Z<|z8 Z Z c1<|aI jn Z<|z8 Z Z c1<|ak j9 Z<|z8 Z Z c1<|aU Z<|z8 Z Z c1<|ak j9 Z<|z8 Z Z c1<|aH Z Z<|aq Z c1 Z<|z6 ?_
   exact ⟨_,di,aG,aC,by simp_all<;>omega⟩
 ·rintro u hu
  subst hu
  refine zt Z (fun c0=>?_) (fun c0=>?_)
  ·have h0:(decide (x.op=op)&&decide (x.args.length=args.length))=false:=by rwa [Bool.not_eq_true'] at c0
   refine ah<|ac Z<|z6<|zg<|zk (x:=.bool _) Z ?_
   exact jb (by
    rcases Bool.and_eq_false_iff.1 h0 with h|h
    ·rw[h];rfl
    ·rw[w8 (p:=x.args=args) (fun e=>absurd (congrArg List.length e) (of_decide_eq_false h)),Bool.and_false])
  ·have h0:(decide (x.op=op)&&decide (x.args.length=args.length))=true:=by simpa using c0
   have h1:x.op=op:=by rw[w9,wc,wc] at h0;exact h0.1
   have h2:x.args.length=args.length:=by rw[w9,wc,wc] at h0;exact h0.2
   refine zd<|zc<|ah<|aU Z<|ak j9 Z<|aa Z<|z6<|zh<|ya (γ:=Nat) [2,3,21] (fun k=>[(22,.int .i64 k)]) (fun k=>[]) (fun k=>k≤args.length∧x.args.take k=args.take k) (fun k=>args.length - k) 0 aG aC (⟨qt _,Z⟩) ?_
   rintro k ⟨hk,hall⟩
   refine ah<|aw Z Z<|z6<|zc<|zp Z (fun ck=>?_) (fun ck=>?_)
   ·have hk2:k<args.length:=by simp at ck;omega
    have hk3:k<x.args.length:=by omega
    refine zd<|zc<|zh<|ah<|aa Z<|ay Z<|z6<|zc<|y7 (fun j=>false) (by kernel_rfl) Z (zn (.rest _))<|au 0 Z (cA j8 Z jg Z Z)<|au 1 Z (iS jn Z)<|au 2 Z (cG Z)<|au 3 Z (bD k j9 ja Z Z Z (qq hk3))<|au 4 Z (du jc Z)<|au 5 Z (kl Z)<|au 6 Z (cG Z)<|au 7 Z (bD k j9 ja Z Z Z (qq hk2))<|au 8 Z (du jc Z)<|au 9 Z (qn Z Z)<|bY<|zt Z (fun cn=>?_) (fun cn=>?_)
    ·have hne:¬x.args[k]=args[k]:=by simpa using cn
     refine ah<|ac Z<|z6<|zg<|zk (x:=.bool _) Z ?_
     exact jb (by rw[w8 (p:=x.args=args) (fun e=>hne (by simp only[e])),Bool.and_false])
    ·have heq:x.args[k]=args[k]:=by simpa using cn
     refine zd<|aM<|aA Z Z<|aa Z<|z6 ?_
     exact ⟨k+1,dC,aG,aC,⟨hk2,by rw[qr hk3,qr hk2,hall,heq]⟩,by omega⟩
   ·have hkn:k=args.length:=by simp at ck;omega
    have he:x.args=args:=by rw[hkn,qv,←h2,qv] at hall;exact hall
    refine y9<|ah<|ac Z<|z6<|zg<|zk (x:=.bool _) Z ?_
    exact jb (by rw[w7 h1,w7 he];rfl)
set_option maxHeartbeats 4000000 in
theorem pe (f:ad) (hf:small f) (x:aN) (hx:x.args.length≤1000) (block:Nat) (at_:Int) (hb:block<f.blocks.length):aJ prog E 87 [.agg (bL f),IQ (mv f),.agg (cK x),.int .i64 block,.int .i64 at_] (.bool (kq f x block at_)):=by
 have hn:=hf.2.2.1
 refine zo func87 Z (by decide) Z<|ah<|yb (cs:=_) Z Z Z<|yb (cs:=_) Z Z Z<|ac Z<|z6<|ah<|ay Z<|z6<|zc<|ah<|ae j8 Z Zq Z Z<|ax Zz Z<|z6 ?_
 by_cases hs:tw x.op=true
 ·have hs3:x.op=2∨x.op=3∨x.op=4:=by simpa [tw] using hs
  rw[kq,hs,Bool.true_and]
  refine yf (γ:=Int) [1,3,4,5,7] (fun op=>[(11,.int .i64 op)]) (fun op=>[]) (fun op=>op=x.op+19) ?_ (fun _ _ h=>h) ?_
  ·refine zh<|ah<|aj Z Z<|ac Z<|z6<|zp Z (fun c2=>?_) (fun c2=>?_)
   ·refine aM<|ay Z<|z6 ?_
    exact ⟨_,iT,aG,aC,by omega⟩
   ·refine ah<|aj Z Z<|ac Z<|z6<|zp Z (fun c3=>?_) (fun c3=>?_)
    ·refine aM<|ay Z<|z6 ?_
     exact ⟨_,iT,aG,aC,by omega⟩
    ·refine ah<|aj Z Z<|ac Z<|z6<|zp Z (fun c4=>?_) (fun c4=>?_)
     ·refine aM<|ay Z<|z6 ?_
      exact ⟨_,iT,aG,aC,by omega⟩
     ·exfalso;omega
  ·rintro op hop
   subst hop
   refine zc<|ah<|ae je Z Ze Z Z<|aI Zl Z<|ak jk Z<|aa Z<|z6<|zh<|ya (γ:=Nat) [1,3,4,7,11,25,26] (fun i=>[(27,.int .i64 i)]) (fun i=>[]) (fun i=>i≤f.blocks.length∧(List.range i).any (Fr f (x.op+19) x.args block at_)=false) (fun i=>f.blocks.length - i) 0 aG aC (⟨qt _,Z⟩) ?_
   rintro i ⟨hi,hiall⟩
   refine ah<|aw Z Z<|z6<|zc<|zp Z (fun ci=>?_) (fun ci=>?_)
   ·have hi2:i<f.blocks.length:=by simp at ci;omega
    obtain ⟨b,hbi⟩:∃b,f.blocks[i]=b:=⟨_,rfl⟩
    have hget:f.blocks[i]?=some b:=by rw[qq hi2,hbi]
    obtain ⟨hb0,hb1,hb2,hb3,hb4⟩:=hf.2.2.2.2 b (hbi▸qu hi2)
    refine zd<|zc<|zh<|ah<|aa Z<|za (bD i jk jv Z Z Z hget)<|ab Yk jv Z Z<|zy (cs:=[.str ⟨#[]⟩,.raw (.slice none 0 0),.raw (.slice none 0 0),.int .i64 0,.int .i64 0,.int .i64 0,.int .i64 0]) Zn Z Z<|fun i13=>ay Z<|zq jv Z Z Z Z Z Z .head Z<|zf (yd (t:=13) Z .head)<|z6<|ah<|ae jl Z Y8 Z Z<|aI Yi Z<|ak jx Z<|aa Z<|z6<|zh<|ya (γ:=Nat) [1,3,4,7,11,12,25,26,27,33,34] (fun k=>[(35,.int .i64 k)]) (fun k=>[]) (fun k=>k≤b.insts.length∧(b.insts.zipIdx.take k).any (qK f (x.op+19) x.args i block at_)=false) (fun k=>b.insts.length - k) 0 aG aC (⟨qt _,Z⟩) ?_
    rintro k ⟨hk,hkall⟩
    refine ah<|aw Z Z<|z6<|zc<|zp Z (fun ck=>?_) (fun ck=>?_)
    ·have hk2:k<b.insts.length:=by simp at ck;omega
     obtain ⟨z,hz⟩:∃z,b.insts[k]=z:=⟨_,rfl⟩
     have hzl:=hb4 z (hz▸qu hk2)
     have hzi:k<b.insts.zipIdx.length:=by simp;exact hk2
     have hze:b.insts.zipIdx[k]=(z,k):=by simp[hz]
     have hah:∀r,dH f ((i:Int),(k:Int)) block at_=r→qK f (x.op+19) x.args i block at_ b.insts.zipIdx[k]=(decide (z.op=x.op+19)&&decide (z.args=x.args)&&r):=fun r h=>by rw[hze];unfold qK;rw[h]
     have hab:dH f ((i:Int),(k:Int)) block at_=if (i:Int)=(block:Int) then decide ((k:Int)<at_) else iR (ao f) f.blocks.length i block:=by unfold dH;rw[if_neg (by dsimp only;omega)]
     refine zd<|zc<|zh<|ah<|aa Z<|za (bD k jx Z9 Z Z Z (by rw[qq hk2,hz])) ?_
     refine ab Ye Z9 Z Z<|zy (cs:=[.int .i64 0,.int .i64 0,.raw (.slice none 0 0),.int .i64 0]) Yf Z Z<|fun i15=>ay Z<|zq Z9 Z Z Z Z Z Z .head Z<|zf (yd (t:=15) Z .head)<|z6<|zc<|yf (γ:=Bool) [1,3,4,7,11,12,25,26,27,33,34,35] (fun u=>[(68,.bool u)]) (fun u=>[]) (fun u=>u=qK f (x.op+19) x.args i block at_ b.insts.zipIdx[k]) ?_ (fun _ _ h=>h) ?_
     ·refine aM<|ab Ye Z9 Z Z<|aa Z<|ae j8 Z jg Z Z<|aI jn Z<|ze (Av z (x.op+19) x.args (by omega) (by omega)) Z<|ai Z<|zm (s:=45) Z (fun c2=>?_) (fun c2=>?_)
      ·refine z8 Z Z c2<|aa Z<|z8 Z Z c2<|aa Z<|z8 Z Z c2<|aj Z Z<|z8 Z Z c2<|ai Z<|zm (s:=49) Z (fun c3=>?_) (fun c3=>?_)
       ·refine z8 Z Z c3<|aa Z<|z8 Z Z c3<|aa Z<|z8 Z Z c3<|aw Z Z<|z8 Z Z c2<|ap Z c3 Z<|z8 Z Z c2<|ai Z<|zm (s:=54) Z (fun c4=>?_) (fun c4=>?_)
        ·refine z7 Z Z c4<|z7 Z Z c4<|z7 Z Z c4<|z7 Z Z c4<|zb Z Z<|zb Z Z<|zb Z Z<|zb Z Z<|zb Z Z<|zb Z Z<|zb Z Z<|z7 Z Z c4<|z8 Z Z c2<|ap Z c4 Z<|ap Z c2 Z<|z6 ?_
         exact ⟨_,ec,aG,aC,by rw[hah _ hab];by_cases h9:(i:Int)=(block:Int)<;>simp_all⟩
        ·refine z8 Z Z c4<|aa Z<|z8 Z Z c4<|aa Z<|z8 Z Z c4<|aH Z Z<|z8 Z Z c4<|ai Z<|zm (s:=58) Z (fun c5=>?_) (fun c5=>?_)
         ·refine z8 Z Z c5<|aU Z<|z8 Z Z c5<|aa Z<|z8 Z Z c5<|za (bD i underlying82 sizeOf55 Z Z Z (m9 hi2))<|z8 Z Z c5<|aI isAgg55 Z<|z8 Z Z c5<|aa Z<|z8 Z Z c5<|za (bD block Za Z5 Z Z Z (qJ hb))<|z8 Z Z c5<|za (yo (c:=.bool _) Zm Z)<|z8 Z Z c4<|ap Z c5 Z<|z8 Z Z c2<|aq Z c4 Z<|ap Z c2 Z<|z6 ?_
          exact ⟨_,ec,aG,aC,by rw[hah _ hab];by_cases h9:(i:Int)=(block:Int)<;>simp_all⟩
         ·refine z7 Z Z c5<|z7 Z Z c5<|z7 Z Z c5<|z7 Z Z c5<|z7 Z Z c5<|z7 Z Z c5<|z7 Z Z c5<|z8 Z Z c4<|aq Z c5 Z<|z8 Z Z c2<|aq Z c4 Z<|ap Z c2 Z<|z6 ?_
          exact ⟨_,ec,aG,aC,by rw[hah _ hab];by_cases h9:(i:Int)=(block:Int)<;>simp_all⟩
       ·refine z7 Z Z c3<|z7 Z Z c3<|z7 Z Z c3<|z8 Z Z c2<|aq Z c3 Z<|z8 Z Z c2<|ai Z<|z8 Z Z Z<|aa Z<|z8 Z Z Z<|aa Z<|z8 Z Z Z<|aH Z Z<|z8 Z Z Z<|ai Z<|zm (s:=58) Z (fun c6=>?_) (fun c6=>?_)
        ·refine z8 Z Z c6<|aU Z<|z8 Z Z c6<|aa Z<|z8 Z Z c6<|za (bD i underlying82 sizeOf55 Z Z Z (m9 hi2))<|z8 Z Z c6<|aI isAgg55 Z<|z8 Z Z c6<|aa Z<|z8 Z Z c6<|za (bD block Za Z5 Z Z Z (qJ hb))<|z8 Z Z c6<|za (yo (c:=.bool _) Zm Z)<|z8 Z Z Z<|ap Z c6 Z<|z8 Z Z c2<|aq Z Z Z<|ap Z c2 Z<|z6 ?_
         exact ⟨_,ec,aG,aC,by rw[hah _ hab];by_cases h9:(i:Int)=(block:Int)<;>simp_all⟩
        ·refine z7 Z Z c6<|z7 Z Z c6<|z7 Z Z c6<|z7 Z Z c6<|z7 Z Z c6<|z7 Z Z c6<|z7 Z Z c6<|z8 Z Z Z<|aq Z c6 Z<|z8 Z Z c2<|aq Z Z Z<|ap Z c2 Z<|z6 ?_
         exact ⟨_,ec,aG,aC,by rw[hah _ hab];by_cases h9:(i:Int)=(block:Int)<;>simp_all⟩
      ·refine z7 Z Z c2<|z7 Z Z c2<|z7 Z Z c2<|z7 Z Z c2<|zb Z Z<|zb Z Z<|zb Z Z<|z7 Z Z c2<|z7 Z Z c2<|zb Z Z<|zb Z Z<|zb Z Z<|zb Z Z<|zb Z Z<|zb Z Z<|zb Z Z<|zb Z Z<|zb Z Z<|zb Z Z<|zb Z Z<|zb Z Z<|z7 Z Z c2<|aq Z c2 Z<|z6 ?_
       exact ⟨_,ec,aG,aC,by rw[hah _ hab];by_cases h9:(i:Int)=(block:Int)<;>simp_all⟩
     ·rintro u hu
      subst hu
      refine zt Z (fun cq=>?_) (fun cq=>?_)
      ·refine ah<|ac Z<|z6<|zg<|zk (x:=.bool _) Z ?_
       exact jb (l6 hi2 (by rw[pu hget];exact Bp hzi cq)).symm
      ·refine zd<|aM<|aA Z Z<|aa Z<|z6 ?_
       exact ⟨k+1,la,aG,aC,⟨hk2,qL hzi hkall (by simpa using cq)⟩,by omega⟩
    ·have hkn:k=b.insts.length:=by simp at ck;omega
     rw[hkn,show b.insts.length=b.insts.zipIdx.length by simp,qv] at hkall
     refine y9<|aM<|aA Z Z<|aa Z<|z6 ?_
     exact ⟨i+1,km,aG,aC,⟨hi2,lg hiall (by rw[pu hget];exact hkall)⟩,by omega⟩
   ·have hin:i=f.blocks.length:=by simp at ci;omega
    subst hin
    refine y9<|ah<|ac Z<|z6<|zg<|zk (x:=.bool _) Z ?_
    exact jb hiall.symm
 ·have hs3:¬(x.op=2∨x.op=3∨x.op=4):=by simpa [tw] using hs
  refine zh<|ah<|aj Z Z<|ac Z<|z6<|zp Z (fun c2=>?_) (fun c2=>?_)
  ·exfalso;omega
  ·refine ah<|aj Z Z<|ac Z<|z6<|zp Z (fun c3=>?_) (fun c3=>?_)
   ·exfalso;omega
   ·refine ah<|aj Z Z<|ac Z<|z6<|zp Z (fun c4=>?_) (fun c4=>?_)
    ·exfalso;omega
    ·refine ah<|ac Z<|z6<|zg<|zk (x:=.bool _) Z ?_
     exact jb (by rw[kq,Bool.eq_false_iff.2 hs];rfl)
set_option linter.defProp false
def qk:=@Gv.idxR
end
end Go.Proofs.YtbanfokidalbaaaGreatDoor
