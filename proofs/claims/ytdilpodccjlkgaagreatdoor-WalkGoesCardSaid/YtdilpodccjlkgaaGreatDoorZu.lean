/- The first check of a block; how it comes from another block; whether it was passed there; what becomes of a program when it moves. Plain law. No conditions. -/
import Derived.Test.YtdilpodccjlkgaaGreatDoorZt
import Derived.Test.YtdilpodccjlkgaaGreatDoorZh
import Derived.Test.YtdilpodccjlkgaaGreatDoorZm
set_option linter.unusedVariables false
set_option linter.unusedSimpArgs false
set_option linter.unusedSectionVars false
namespace Go.Proofs.YtdilpodccjlkgaaGreatDoor
open Go.Proofs.Tryz
open Go.Proofs Go.Lib Go.Shelf Go.RowKit
variable {E:World}
set_option maxRecDepth 20000
theorem DP {f:ac} {x:aF} {m:Nat} (e:x.op=1) (h:m<(gM f x).length):(gM f x)[m]=bg f x.dst:=by
 have h2:(gM f x)[m]?=some (bg f x.dst):=by
  unfold gM at h ⊢
  rw[if_pos e] at h ⊢
  simp at h
  subst h;rfl
 rw[qt h] at h2
 exact Option.some.inj h2
theorem DQ {f:ac} {x:aF} {m:Nat} (e:¬x.op=1) (h:m<(gM f x).length) (h':m<(bb x.op).length):(gM f x)[m]=(bb x.op)[m]:=by
 have h2:(gM f x)[m]?=some ((bb x.op)[m]):=by
  unfold gM
  rw[if_neg e,qt h']
 rw[qt h] at h2
 exact Option.some.inj h2
theorem BN {f:ac} {t:fi} (h:bC f t=true):t.kind=0∨t.kind=1∨t.kind=2:=by
 unfold bC at h
 by_cases h0:t.kind=0
 ·exact .inl h0
 ·rw[if_neg h0] at h
  by_cases h1:t.kind=1
  ·exact .inr (.inl h1)
  ·rw[if_neg h1] at h
   by_cases h2:t.kind=2
   ·exact .inr (.inr h2)
   ·rw[if_neg h2] at h;cases h
set_option maxHeartbeats 8000000 in
theorem rN (f:ac) (hf:small f) (hS:bR f):aM prog E 77 [.agg (bE f)] (.bool (f.blocks.all (iH f))):=by
 have hn:=hf.2.2.1
 refine zp func77 Z (by decide) Z<|ai<|ya (cs:=_) Z Z Z<|ab Z<|z6<|zd<|ai<|au jg Z Z8 Z Z<|aI Zg Z<|aq ju Z<|aa Z<|z6<|zm<|y8 (γ:=Nat) [1,16,17] (fun i=>[(18,.int .i64 i)]) (fun i=>[]) (fun i=>i≤f.blocks.length∧(f.blocks.take i).all (iH f)=true) (fun i=>f.blocks.length - i) 0 aK aH (⟨qw _,Z⟩) ?_
 rintro i ⟨hi,hall⟩
 refine ai<|ay Z Z<|z6<|zd<|zt Z (fun ci=>?_) (fun ci=>?_)
 ·have hi2:i<f.blocks.length:=by simp at ci;omega
  obtain ⟨b,hbi⟩:∃b,f.blocks[i]=b:=⟨_,rfl⟩
  have hget:f.blocks[i]?=some b:=by rw[qt hi2,hbi]
  have hmem:b∈f.blocks:=hbi▸qx hi2
  obtain ⟨hb0,hb1,hb2,hb3,hb4⟩:=hf.2.2.2.2 b hmem
  obtain ⟨hPh,hIn,hTm⟩:=hS.2.2.2.2.2 b hmem
  have hbad:iH f b=false→f.blocks.all (iH f)=false:=fun h=>Bool.eq_false_iff.2 (df hi2 (by rw[hbi];exact h))
  refine zi<|zd<|zm<|ai<|za (bv i ju jx Z Z Z hget)<|ae Yo jx Z Z<|y7 (cs:=[.str ⟨#[]⟩,.raw (.slice none 0 0),.raw (.slice none 0 0),.int .i64 0,.int .i64 0,.int .i64 0,.int .i64 0]) Zl Z Z<|fun i4=>y1 jx Z Z Z Z Z Z .head Z<|ze (yd (t:=4) Z .head)<|z6<|zd<|ai<|au ji Z Yl Z Z<|aI Yv Z<|aq Z3 Z<|aa Z<|z6<|zm<|y8 (γ:=Nat) [1,4,16,17,18,23,24] (fun j=>[(25,.int .i64 j)]) (fun j=>[]) (fun j=>j≤b.phis.length∧(b.phis.take j).all (tb f)=true) (fun j=>b.phis.length - j) 0 aK aH (⟨qw _,Z⟩) ?_
  rintro j ⟨hj,hjall⟩
  refine ai<|ay Z Z<|z6<|zd<|zt Z (fun cj=>?_) (fun cj=>?_)
  ·have hj2:j<b.phis.length:=by simp at cj;omega
   obtain ⟨p,hp⟩:∃p,b.phis[j]=p:=⟨_,rfl⟩
   have hpm:p∈b.phis:=hp▸qx hj2
   obtain ⟨hpd,hpl,hpn,hpa,hpf⟩:=hPh p hpm
   have hpb:=(hb3 p hpm).1
   refine zi<|zd<|zm<|ai<|za (bv j Z3 Zb Z Z Z (by rw[qt hj2,hp])) ?_
   refine ae X1 Zb Z Z<|y7 (cs:=[.int .i64 0,.raw (.slice none 0 0),.raw (.slice none 0 0)]) Yg Z Z<|fun i6=>y1 Zb Z Z Z Z Z Z .head Z<|ze (yd (t:=6) Z .head)<|z6<|ai<|au jz Z j7 Z Z<|aI jf Z<|aq wy Z<|aa Z<|z6<|zm<|y8 (γ:=Nat) [1,4,6,16,17,18,23,24,25,30,31] (fun k=>[(32,.int .i64 k)]) (fun k=>[]) (fun k=>k≤p.args.length∧(p.args.take k).all (fun v=>decide (bg f v=bg f p.dst))=true) (fun k=>p.args.length - k) 0 aK aH (⟨qw _,Z⟩) ?_
   rintro k ⟨hk,hkall⟩
   refine ai<|ay Z Z<|z6<|zd<|zt Z (fun ck=>?_) (fun ck=>?_)
   ·have hk2:k<p.args.length:=by simp at ck;omega
    obtain ⟨v,hv⟩:∃v,p.args[k]=v:=⟨_,rfl⟩
    have hvv:=List.all_eq_true.1 hpa v (hv▸qx hk2)
    refine zi<|zd<|zm<|ai<|za (bv k wy wz Z Z Z (by rw[qt hk2,hv])) ?_
    refine aA j6 Z<|ao Z<|z6<|zd<|zr (fun j=>false) (by kernel_rfl) Z (zj (.rest _))<|ad 0 Z (yw jv jj Z Z)<|ad 1 Z (cD Z)<|ad 3 Z (yw jv jj Z Z)<|ad 4 Z (bK jz Z wz Z Z)<|ad 5 Z (cQ j6 Z)<|aQ 2 Z<|zh (fQ f v hvv) Z<|z6<|aQ 6 Z<|zh (fQ f p.dst hpd) Z<|z6<|ad 7 Z (Gv.neqI Z Z)<|bI<|zy Z (fun cq=>?_) (fun cq=>?_)
    ·have hq:¬bg f v=bg f p.dst:=by simpa using cq
     have hph:tb f p=false:=by
      unfold tb
      rw[show (p.args.any fun v=>!decide (bg f v=bg f p.dst))=true from List.any_eq_true.2 ⟨v,hv▸qx hk2,by simp[hq]⟩];rfl
     refine ai<|ab Z<|z6<|zg<|zn (x:=.bool _) Z ?_
     rw[hbad (by unfold iH;rw[show b.phis.all (tb f)=false from Bool.eq_false_iff.2 (df hj2 (by rw[hp];exact hph))];rfl)]
    ·have hq:bg f v=bg f p.dst:=by simpa using cq
     refine zi<|aW<|aE Z Z<|aa Z<|z6 ?_
     exact ⟨k+1,oY,aK,aH,⟨hk2,bJ hk2 hkall (by rw[hv];simp[hq])⟩,by omega⟩
   ·have hkn:k=p.args.length:=by simp at ck;omega
    rw[hkn,qy] at hkall
    have hph:tb f p=true:=by
     unfold tb
     rw[show (p.args.any fun v=>!decide (bg f v=bg f p.dst))=false from List.any_eq_false.2 fun v hv=>by have:=List.all_eq_true.1 hkall v hv;simpa using this];rfl
    refine y6<|aW<|aE Z Z<|aa Z<|z6 ?_
    exact ⟨j+1,lf,aK,aH,⟨hj2,bJ hj2 hjall (by rw[hp];exact hph)⟩,by omega⟩
  ·have hjn:j=b.phis.length:=by simp at cj;omega
   subst hjn
   rw[qy] at hjall
   refine y6<|zd<|ai<|au ji Z Zt Z Z<|aI Y9 Z<|aq Z0 Z<|aa Z<|z6<|zm<|y8 (γ:=Nat) [1,4,16,17,18,47,48] (fun k=>[(49,.int .i64 k)]) (fun k=>[]) (fun k=>k≤b.insts.length∧(b.insts.take k).all (dN f)=true) (fun k=>b.insts.length - k) 0 aK aH (⟨qw _,Z⟩) ?_
   rintro k ⟨hk,hkall⟩
   refine ai<|ay Z Z<|z6<|zd<|zt Z (fun ck=>?_) (fun ck=>?_)
   ·have hk2:k<b.insts.length:=by simp at ck;omega
    obtain ⟨z,hz⟩:∃z,b.insts[k]=z:=⟨_,rfl⟩
    have hzm:z∈b.insts:=hz▸qx hk2
    have hI:=gN (hIn z hzm)
    have hzl:=hb4 z hzm
    have hwl:=BM hI
    have hdst:cR z.op=true→bc f z.dst=true:=fun h=>by
     rcases hI.dst with ⟨d1,_⟩|⟨_,_,d3⟩
     ·rw[h] at d1;cases d1
     ·exact d3
    have hcopy:z.op=1→cR z.op=true:=fun h=>by rw[h];rfl
    have hib:dN f z=false→f.blocks.all (iH f)=false:=fun h=>hbad (by unfold iH;rw[hjall,show b.insts.all (dN f)=false from Bool.eq_false_iff.2 (df hk2 (by rw[hz];exact h))];rfl)
    refine zi<|zd<|zm<|ai<|za (bv k Z0 jy Z Z Z (by rw[qt hk2,hz])) ?_
    refine ae Zz jy Z Z<|y7 (cs:=[.int .i64 0,.int .i64 0,.raw (.slice none 0 0),.int .i64 0]) Zh Z Z<|fun i10=>y1 jy Z Z Z Z Z Z .head Z<|ze (yd (t:=10) Z .head)<|z6<|zd<|ye (γ:=Nat) [1,4,10,16,17,18,47,48,49] (fun g=>[(11,.po g 0)]) (fun g=>[(g,.cells 154 (rD (bY z.op)))]) (fun g=>True) ?_ (fun _ _ h=>h) ?_
    ·refine zr (fun j=>false) (by kernel_rfl) Z (zj (.rest _))<|ad 1 Z (bK j5 Z Z2 Z Z)<|ad 2 Z (cQ Z4 Z)<|yr (i:=0) (j:=5) Z Z (by kernel_rfl) ?_ ?_
     ·refine zh (iR) Z<|z6<|ad 3 Z (bv z.op.toNat Xd Ys Z Z (by have:=hI.op;omega) (re hI.op))<|ad 4 Z (yw isAgg154 Ys Z Z)<|aQ 5 Z<|y7 (cs:=[.str ⟨#[]⟩,.str ⟨#[]⟩,.str ⟨#[]⟩]) Xi Z Z<|fun i11=>z6<|aQ 6 Z<|y1 Ys Z Z Z Z Z Z .head Z<|z6<|bI ?_
      exact ⟨i11,sY,aK,aH,trivial⟩
     ·refine y7 (cs:=[.str ⟨#[]⟩,.str ⟨#[]⟩,.str ⟨#[]⟩]) Xi Z Z<|fun i11=>z6<|aQ 0 Z<|zh (iR) Z<|z6<|ad 3 Z (bv z.op.toNat Xd Ys Z Z (by have:=hI.op;omega) (re hI.op))<|ad 4 Z (yw isAgg154 Ys Z Z)<|aQ 6 Z<|y1 Ys Z Z Z Z Z Z .head Z<|z6<|bI ?_
      exact ⟨i11,sY,aK,aH,trivial⟩
    ·rintro i11 _
     refine zd<|ai<|au j5 Z j7 Z Z<|aI jf Z<|aq wy Z<|aa Z<|z6<|zm<|y8 (γ:=Nat) [1,4,10,11,16,17,18,47,48,49,60] (fun m=>[(61,.int .i64 m)]) (fun m=>[(i11,.cells 154 (rD (bY z.op)))]) (fun m=>m≤z.args.length∧(z.args.take m).map (bg f)=(gM f z).take m) (fun m=>z.args.length - m) 0 aK aH (⟨qw _,by simp⟩) ?_
     rintro m ⟨hm,hmall⟩
     refine ai<|ay Z Z<|z6<|zd<|zt Z (fun cm=>?_) (fun cm=>?_)
     ·have hm2:m<z.args.length:=by simp at cm;omega
      have hmw:m<(gM f z).length:=by omega
      have hmt:m<(bb z.op).length:=by have:=hI.len;omega
      obtain ⟨v,hv⟩:∃v,z.args[m]=v:=⟨_,rfl⟩
      have hvv:=hI.args v (hv▸qx hm2)
      obtain ⟨c,hc,hct⟩:=xU hmt
      have hbadm:¬bg f v=(gM f z)[m]→f.blocks.all (iH f)=false:=fun h=>hib (by rw[rg hI,w9 (Cz hm2 hmw (by rw[hv];exact h))];rfl)
      refine zi<|zd<|zm<|ai<|aa Z<|ao Z<|z6<|ai<|za (zf Y3 Z Y8 (by decide) Z Z)<|za (zo (c:=.str _) Yh Z ⟨_,.head⟩ Z)<|aa Z<|za (Gv.indexT (j:=m) Zr Z Z Z hc)<|zh (qZ (c.toNat:Int)) Z<|ao Z<|z6<|zd<|ai<|za (zf Y3 Z Y8 (by decide) Z Z)<|za (zo (c:=.str _) Yh Z ⟨_,.head⟩ Z)<|za (q4 Z Z)<|z6<|zy Z (fun cw=>?_) (fun cw=>?_)
      ·have ew:z.op=1:=(oO hI.op).1 (by simpa using cw)
       refine aW<|ae jv jj Z Z<|au j5 Z wz Z Z<|aA j6 Z<|zh (fQ f z.dst (hdst (hcopy ew))) Z<|ao Z<|z6<|zd<|zr (fun j=>false) (by kernel_rfl) Z (zj (.rest _))<|ad 0 Z (yw jv jj Z Z)<|ad 1 Z (bK j5 Z j7 Z Z)<|ad 2 Z (e9 jf Z)<|ad 3 Z (cD Z)<|ad 4 Z (bv m wy wz Z Z Z (by rw[qt hm2,hv])) ?_
       refine ad 5 Z (cQ j6 Z)<|ad 7 Z (cD Z)<|aQ 6 Z<|zh (fQ f v hvv) Z<|z6<|ad 8 Z (Gv.neqI Z Z)<|bI<|zy Z (fun cq=>?_) (fun cq=>?_)
       ·have hq:¬bg f v=bg f z.dst:=by simpa using cq
        refine ai<|ab Z<|z6<|zg<|zn (x:=.bool _) Z ?_
        rw[hbadm (by rw[DP ew hmw];exact hq)]
       ·have hq:bg f v=bg f z.dst:=by simpa using cq
        refine zi<|aW<|aE Z Z<|aa Z<|z6 ?_
        exact ⟨m+1,oY,aK,aH,⟨hm2,iE hm2 hmw hmall (by rw[hv,DP ew hmw];exact hq)⟩,by omega⟩
      ·have ew:¬z.op=1:=fun e=>by have:=(oO hI.op).2 e;simp[this] at cw
       refine zi<|zd<|zr (fun j=>false) (by kernel_rfl) Z (zj (.rest _))<|ad 0 Z (yw jv jj Z Z)<|ad 1 Z (bK j5 Z j7 Z Z)<|ad 2 Z (e9 jf Z)<|ad 3 Z (cD Z)<|ad 4 Z (bv m wy wz Z Z Z (by rw[qt hm2,hv])) ?_
       refine ad 5 Z (cQ j6 Z)<|ad 7 Z (cD Z)<|aQ 6 Z<|zh (fQ f v hvv) Z<|z6<|ad 8 Z (Gv.neqI Z Z)<|bI<|zy Z (fun cq=>?_) (fun cq=>?_)
       ·have hq:¬bg f v=ei (c.toNat:Int):=by simpa using cq
        refine ai<|ab Z<|z6<|zg<|zn (x:=.bool _) Z ?_
        rw[hbadm (by rw[DQ ew hmw hmt,hct];exact hq)]
       ·have hq:bg f v=ei (c.toNat:Int):=by simpa using cq
        refine zi<|aW<|aE Z Z<|aa Z<|z6 ?_
        exact ⟨m+1,oY,aK,aH,⟨hm2,iE hm2 hmw hmall (by rw[hv,DQ ew hmw hmt,hct];exact hq)⟩,by omega⟩
     ·have hmn:m=z.args.length:=by simp at cm;omega
      have hall2:z.args.map (bg f)=gM f z:=by rw[hmn,qy,hwl,qy] at hmall;exact hmall
      have hiw:=rg hI
      rw[w8 hall2,Bool.true_and] at hiw
      refine y6<|zd<|zr (fun j=>false) (by kernel_rfl) Z (zj (.r (.rest _)))<|ad 0 Z (zf Y3 Z Y8 (by decide) Z Z)<|ad 1 Z (zo (c:=.str _) Yh Z ⟨_,.head⟩ Z)<|ad 2 Z (Gv.neqT Z Z)<|ad 3 Z (m5 Z)<|qj (s:=89) Z (fun c1=>?_) (fun c1=>?_)
      ·have d1:¬(bY z.op).2.2=⟨#[]⟩:=by simpa using c1
       have dm:cR z.op=true:=by rw[ln,w9 d1];rfl
       obtain ⟨c,hc,hct⟩:=xV d1
       refine cG 4 Z Z Z c1 (zf Y3 Z Y8 (by decide) Z Z)<|cG 5 Z Z Z c1 (zo (c:=.str _) Yh Z ⟨_,.head⟩ Z)<|cG 6 Z Z Z c1 (Gv.neqT Z Z)<|ad 7 Z (sX Z c1 Z)<|ad 8 Z (m5 Z)<|qj (s:=94) Z (fun c2=>?_) (fun c2=>?_)
       ·have ew:¬z.op=1:=fun e=>by have:=(oO hI.op).2 e;simp[this] at c2
        refine cG 9 Z Z Z c2 (yw jv jj Z Z)<|cG 10 Z Z Z c2 (bK j5 Z wz Z Z)<|cG 11 Z Z Z c2 (cQ j6 Z)<|cG 13 Z Z Z c2 (zf Y3 Z Y8 (by decide) Z Z)<|cG 14 Z Z Z c2 (zo (c:=.str _) Yh Z ⟨_,.head⟩ Z)<|cG 15 Z Z Z c2 (Gv.indexT (j:=0) Zr Z Z Z hc)<|aQ 12 Z<|z8 Z Z c2<|zh (fQ f z.dst (hdst dm)) Z<|z6<|aQ 16 Z<|z8 Z Z c2<|zh (qZ (c.toNat:Int)) Z<|z6<|cG 17 Z Z Z c2 (Gv.neqI Z Z)<|ad 18 Z (sX Z c2 Z)<|bI<|zy Z (fun cq=>?_) (fun cq=>?_)
        ·have hq:¬bg f z.dst=ei (c.toNat:Int):=by simpa using cq
         refine ai<|ab Z<|z6<|zg<|zn (x:=.bool _) Z ?_
         rw[hib (by rw[hiw,dm,w9 ew,hct,w9 hq];rfl)]
        ·have hq:bg f z.dst=ei (c.toNat:Int):=by simpa using cq
         refine zi<|aW<|aE Z Z<|aa Z<|z6 ?_
         exact ⟨k+1,lf,aK,⟨_,(.drop (.refl _)),rfl⟩,⟨hk2,bJ hk2 hkall (by rw[hz,hiw,hct,w8 hq];simp)⟩,by omega⟩
       ·have ew:z.op=1:=(oO hI.op).1 (by simpa using c2)
        refine bX 9 Z Z Z c2<|bX 10 Z Z Z c2<|bX 11 Z Z Z c2<|bX 12 Z Z Z c2<|bX 13 Z Z Z c2<|bX 14 Z Z Z c2<|bX 15 Z Z Z c2<|bX 16 Z Z Z c2<|bX 17 Z Z Z c2<|ad 18 Z (rz Z c2 Z)<|bI<|yg Z Z<|zi<|aW<|aE Z Z<|aa Z<|z6 ?_
        exact ⟨k+1,lf,aK,⟨_,(.drop (.refl _)),rfl⟩,⟨hk2,bJ hk2 hkall (by rw[hz,hiw,w8 ew];simp)⟩,by omega⟩
      ·have d1:(bY z.op).2.2=⟨#[]⟩:=by simpa using c1
       have dm:cR z.op=false:=by rw[ln,w8 d1];rfl
       refine bX 4 Z Z Z c1<|bX 5 Z Z Z c1<|bX 6 Z Z Z c1<|ad 7 Z (rz Z c1 Z)<|ad 8 Z (m5 Z)<|bX 9 Z Z Z Z<|bX 10 Z Z Z Z<|bX 11 Z Z Z Z<|bX 12 Z Z Z Z<|bX 13 Z Z Z Z<|bX 14 Z Z Z Z<|bX 15 Z Z Z Z<|bX 16 Z Z Z Z<|bX 17 Z Z Z Z<|ad 18 Z (rz Z Z Z)<|bI<|yg Z Z<|zi<|aW<|aE Z Z<|aa Z<|z6 ?_
       exact ⟨k+1,lf,aK,⟨_,(.drop (.refl _)),rfl⟩,⟨hk2,bJ hk2 hkall (by rw[hz,hiw,dm];rfl)⟩,by omega⟩
   ·have hkn:k=b.insts.length:=by simp at ck;omega
    rw[hkn,qy] at hkall
    refine y6<|ai<|au ji Z Zo Z Z<|ae isAgg49 Zo Z Z<|y7 (cs:=[.int .i64 0,.int .i64 0,.int .i64 0,.int .i64 0]) zeroValue49 Z Z<|fun i14=>y1 Zo Z Z Z Z Z Z .head Z<|ze (yd (t:=14) Z .head)<|z6<|zd<|ye (γ:=Bool) [1,16,17,18] (fun u=>[(152,.bool u)]) (fun u=>[]) (fun u=>u=!dZ f b.term) ?_ (fun _ _ h=>h) ?_
    ·have hk3:=BN hTm
     refine aW<|au je Z Y0 Z Z<|aA Ye Z<|ak Z Z<|aj Z<|zq (s:=111) Z (fun c1=>?_) (fun c1=>?_)
     ·refine z8 Z Z c1<|ae jv jj Z Z<|z8 Z Z c1<|au je Z wz Z Z<|z8 Z Z c1<|aA j6 Z<|z8 Z Z c1<|zh (fQ f b.term.var (hZ hTm (by simp_all))) Z<|z8 Z Z c1<|aO Z Z<|aw Z c1 Z<|aj Z<|zq (s:=118) Z (fun c2=>?_) (fun c2=>?_)
      ·refine z7 Z Z c2<|z7 Z Z c2<|z7 Z Z c2<|z7 Z Z c2<|zk Z Z<|zk Z Z<|zk Z Z<|zk Z Z<|zk Z Z<|zk Z Z<|zk Z Z<|zk Z Z<|zk Z Z<|zk Z Z<|zk Z Z<|zk Z Z<|zk Z Z<|zk Z Z<|zk Z Z<|zk Z Z<|zk Z Z<|z7 Z Z c2<|aw Z c2 Z<|aj Z<|z7 Z Z Z<|z7 Z Z Z<|z7 Z Z Z<|z7 Z Z Z<|zk Z Z<|zk Z Z<|zk Z Z<|zk Z Z<|z7 Z Z Z<|aw Z Z Z<|z6 ?_
       exact ⟨_,gH,aK,aH,by simp_all[dZ]<;>omega⟩
      ·refine z8 Z Z c2<|au je Z Y0 Z Z<|z8 Z Z c2<|aA Ye Z<|z8 Z Z c2<|ak Z Z<|z8 Z Z c2<|aj Z<|zq (s:=122) Z (fun c3=>?_) (fun c3=>?_)
       ·refine z8 Z Z c3<|ae jv jj Z Z<|z8 Z Z c3<|au je Z wz Z Z<|z8 Z Z c3<|aA j6 Z<|z8 Z Z c3<|zh (fQ f b.term.var (hZ hTm (by simp_all))) Z<|z8 Z Z c3<|aO Z Z<|z8 Z Z c3<|aj Z<|zq (s:=128) Z (fun c4=>?_) (fun c4=>?_)
        ·refine z7 Z Z c4<|z7 Z Z c4<|z7 Z Z c4<|z7 Z Z c4<|z8 Z Z c3<|aw Z c4 Z<|z8 Z Z c3<|aj Z<|z7 Z Z Z<|z7 Z Z Z<|z7 Z Z Z<|z7 Z Z Z<|z8 Z Z c3<|aw Z Z Z<|z8 Z Z c2<|aw Z c3 Z<|ax Z c2 Z<|aj Z<|z7 Z Z Z<|z7 Z Z Z<|z7 Z Z Z<|z7 Z Z Z<|zk Z Z<|zk Z Z<|zk Z Z<|zk Z Z<|z7 Z Z Z<|aw Z Z Z<|z6 ?_
         exact ⟨_,gH,aK,aH,by simp_all[dZ]<;>omega⟩
        ·refine z8 Z Z c4<|au je Z Zd Z Z<|z8 Z Z c4<|za (q3 (j:=0) Z1 wz Z Z Z (by decide) Z)<|z8 Z Z c4<|aA j6 Z<|z8 Z Z c4<|ak Z Z<|z8 Z Z c3<|ax Z c4 Z<|z8 Z Z c3<|aj Z<|zq (s:=134) Z (fun c5=>?_) (fun c5=>?_)
         ·refine z7 Z Z c5<|z7 Z Z c5<|z7 Z Z c5<|z7 Z Z c5<|z8 Z Z c3<|aw Z c5 Z<|z8 Z Z c2<|aw Z c3 Z<|ax Z c2 Z<|aj Z<|z7 Z Z Z<|z7 Z Z Z<|z7 Z Z Z<|z7 Z Z Z<|zk Z Z<|zk Z Z<|zk Z Z<|zk Z Z<|z7 Z Z Z<|aw Z Z Z<|z6 ?_
          exact ⟨_,gH,aK,aH,by simp_all[dZ]<;>omega⟩
         ·refine z8 Z Z c5<|au je Z Zd Z Z<|z8 Z Z c5<|za (q3 (j:=1) Z1 wz Z Z Z (by decide) Z)<|z8 Z Z c5<|aA j6 Z<|z8 Z Z c5<|ak Z Z<|z8 Z Z c3<|ax Z c5 Z<|z8 Z Z c2<|aw Z c3 Z<|ax Z c2 Z<|aj Z<|zq (s:=142) Z (fun c6=>?_) (fun c6=>?_)
          ·refine z7 Z Z c6<|z7 Z Z c6<|z7 Z Z c6<|z7 Z Z c6<|zk Z Z<|zk Z Z<|zk Z Z<|zk Z Z<|z7 Z Z c6<|aw Z c6 Z<|z6 ?_
           exact ⟨_,gH,aK,aH,by simp_all[dZ]<;>omega⟩
          ·refine z8 Z Z c6<|au je Z Y0 Z Z<|z8 Z Z c6<|aA Ye Z<|z8 Z Z c6<|ak Z Z<|z8 Z Z c6<|aj Z<|zq (s:=146) Z (fun c7=>?_) (fun c7=>?_)
           ·refine z8 Z Z c7<|au je Z Zd Z Z<|z8 Z Z c7<|za (q3 (j:=0) Z1 wz Z Z Z (by decide) Z)<|z8 Z Z c7<|aA j6 Z<|z8 Z Z c7<|ak Z Z<|z8 Z Z c6<|aw Z c7 Z<|ax Z c6 Z<|z6 ?_
            exact ⟨_,gH,aK,aH,by simp_all[dZ]<;>omega⟩
           ·refine z7 Z Z c7<|z7 Z Z c7<|z7 Z Z c7<|z7 Z Z c7<|z8 Z Z c6<|ax Z c7 Z<|ax Z c6 Z<|z6 ?_
            exact ⟨_,gH,aK,aH,by simp_all[dZ]<;>omega⟩
       ·refine z7 Z Z c3<|z7 Z Z c3<|z7 Z Z c3<|z7 Z Z c3<|z7 Z Z c3<|z7 Z Z c3<|zk Z Z<|zk Z Z<|zk Z Z<|zk Z Z<|z7 Z Z c3<|z7 Z Z c3<|zk Z Z<|zk Z Z<|zk Z Z<|zk Z Z<|z7 Z Z c3<|z8 Z Z c2<|ax Z c3 Z<|ax Z c2 Z<|aj Z<|z8 Z Z Z<|au je Z Y0 Z Z<|z8 Z Z Z<|aA Ye Z<|z8 Z Z Z<|ak Z Z<|z8 Z Z Z<|aj Z<|zq (s:=146) Z (fun c8=>?_) (fun c8=>?_)
        ·refine z8 Z Z c8<|au je Z Zd Z Z<|z8 Z Z c8<|za (q3 (j:=0) Z1 wz Z Z Z (by decide) Z)<|z8 Z Z c8<|aA j6 Z<|z8 Z Z c8<|ak Z Z<|z8 Z Z Z<|aw Z c8 Z<|ax Z Z Z<|z6 ?_
         exact ⟨_,gH,aK,aH,by simp_all[dZ]<;>omega⟩
        ·refine z7 Z Z c8<|z7 Z Z c8<|z7 Z Z c8<|z7 Z Z c8<|z8 Z Z Z<|ax Z c8 Z<|ax Z Z Z<|z6 ?_
         exact ⟨_,gH,aK,aH,by simp_all[dZ]<;>omega⟩
     ·refine z7 Z Z c1<|z7 Z Z c1<|z7 Z Z c1<|z7 Z Z c1<|z7 Z Z c1<|ax Z c1 Z<|aj Z<|z8 Z Z Z<|au je Z Y0 Z Z<|z8 Z Z Z<|aA Ye Z<|z8 Z Z Z<|ak Z Z<|z8 Z Z Z<|aj Z<|zq (s:=122) Z (fun c9=>?_) (fun c9=>?_)
      ·refine z8 Z Z c9<|ae jv jj Z Z<|z8 Z Z c9<|au je Z wz Z Z<|z8 Z Z c9<|aA j6 Z<|z8 Z Z c9<|zh (fQ f b.term.var (hZ hTm (by simp_all))) Z<|z8 Z Z c9<|aO Z Z<|z8 Z Z c9<|aj Z<|zq (s:=128) Z (fun c10=>?_) (fun c10=>?_)
       ·refine z7 Z Z c10<|z7 Z Z c10<|z7 Z Z c10<|z7 Z Z c10<|z8 Z Z c9<|aw Z c10 Z<|z8 Z Z c9<|aj Z<|z7 Z Z Z<|z7 Z Z Z<|z7 Z Z Z<|z7 Z Z Z<|z8 Z Z c9<|aw Z Z Z<|z8 Z Z Z<|aw Z c9 Z<|ax Z Z Z<|aj Z<|z7 Z Z Z<|z7 Z Z Z<|z7 Z Z Z<|z7 Z Z Z<|zk Z Z<|zk Z Z<|zk Z Z<|zk Z Z<|z7 Z Z Z<|aw Z Z Z<|z6 ?_
        exact ⟨_,gH,aK,aH,by simp_all[dZ]<;>omega⟩
       ·refine z8 Z Z c10<|au je Z Zd Z Z<|z8 Z Z c10<|za (q3 (j:=0) Z1 wz Z Z Z (by decide) Z)<|z8 Z Z c10<|aA j6 Z<|z8 Z Z c10<|ak Z Z<|z8 Z Z c9<|ax Z c10 Z<|z8 Z Z c9<|aj Z<|zq (s:=134) Z (fun c11=>?_) (fun c11=>?_)
        ·refine z7 Z Z c11<|z7 Z Z c11<|z7 Z Z c11<|z7 Z Z c11<|z8 Z Z c9<|aw Z c11 Z<|z8 Z Z Z<|aw Z c9 Z<|ax Z Z Z<|aj Z<|z7 Z Z Z<|z7 Z Z Z<|z7 Z Z Z<|z7 Z Z Z<|zk Z Z<|zk Z Z<|zk Z Z<|zk Z Z<|z7 Z Z Z<|aw Z Z Z<|z6 ?_
         exact ⟨_,gH,aK,aH,by simp_all[dZ]<;>omega⟩
        ·refine z8 Z Z c11<|au je Z Zd Z Z<|z8 Z Z c11<|za (q3 (j:=1) Z1 wz Z Z Z (by decide) Z)<|z8 Z Z c11<|aA j6 Z<|z8 Z Z c11<|ak Z Z<|z8 Z Z c9<|ax Z c11 Z<|z8 Z Z Z<|aw Z c9 Z<|ax Z Z Z<|aj Z<|zq (s:=142) Z (fun c12=>?_) (fun c12=>?_)
         ·refine z7 Z Z c12<|z7 Z Z c12<|z7 Z Z c12<|z7 Z Z c12<|zk Z Z<|zk Z Z<|zk Z Z<|zk Z Z<|z7 Z Z c12<|aw Z c12 Z<|z6 ?_
          exact ⟨_,gH,aK,aH,by simp_all[dZ]<;>omega⟩
         ·refine z8 Z Z c12<|au je Z Y0 Z Z<|z8 Z Z c12<|aA Ye Z<|z8 Z Z c12<|ak Z Z<|z8 Z Z c12<|aj Z<|zq (s:=146) Z (fun c13=>?_) (fun c13=>?_)
          ·refine z8 Z Z c13<|au je Z Zd Z Z<|z8 Z Z c13<|za (q3 (j:=0) Z1 wz Z Z Z (by decide) Z)<|z8 Z Z c13<|aA j6 Z<|z8 Z Z c13<|ak Z Z<|z8 Z Z c12<|aw Z c13 Z<|ax Z c12 Z<|z6 ?_
           exact ⟨_,gH,aK,aH,by simp_all[dZ]<;>omega⟩
          ·refine z7 Z Z c13<|z7 Z Z c13<|z7 Z Z c13<|z7 Z Z c13<|z8 Z Z c12<|ax Z c13 Z<|ax Z c12 Z<|z6 ?_
           exact ⟨_,gH,aK,aH,by simp_all[dZ]<;>omega⟩
      ·refine z7 Z Z c9<|z7 Z Z c9<|z7 Z Z c9<|z7 Z Z c9<|z7 Z Z c9<|z7 Z Z c9<|zk Z Z<|zk Z Z<|zk Z Z<|zk Z Z<|z7 Z Z c9<|z7 Z Z c9<|zk Z Z<|zk Z Z<|zk Z Z<|zk Z Z<|z7 Z Z c9<|z8 Z Z Z<|ax Z c9 Z<|ax Z Z Z<|aj Z<|z8 Z Z Z<|au je Z Y0 Z Z<|z8 Z Z Z<|aA Ye Z<|z8 Z Z Z<|ak Z Z<|z8 Z Z Z<|aj Z<|zq (s:=146) Z (fun c14=>?_) (fun c14=>?_)
       ·refine z8 Z Z c14<|au je Z Zd Z Z<|z8 Z Z c14<|za (q3 (j:=0) Z1 wz Z Z Z (by decide) Z)<|z8 Z Z c14<|aA j6 Z<|z8 Z Z c14<|ak Z Z<|z8 Z Z Z<|aw Z c14 Z<|ax Z Z Z<|z6 ?_
        exact ⟨_,gH,aK,aH,by simp_all[dZ]<;>omega⟩
       ·refine z7 Z Z c14<|z7 Z Z c14<|z7 Z Z c14<|z7 Z Z c14<|z8 Z Z Z<|ax Z c14 Z<|ax Z Z Z<|z6 ?_
        exact ⟨_,gH,aK,aH,by simp_all[dZ]<;>omega⟩
    ·rintro u hu
     subst hu
     refine zy Z (fun ct=>?_) (fun ct=>?_)
     ·have dt:dZ f b.term=false:=by simpa using ct
      refine ai<|ab Z<|z6<|zg<|zn (x:=.bool _) Z ?_
      rw[hbad (by unfold iH;rw[hjall,hkall,dt];rfl)]
     ·have dt:dZ f b.term=true:=by simpa using ct
      refine zi<|aW<|aE Z Z<|aa Z<|z6 ?_
      exact ⟨i+1,db,aK,aH,⟨hi2,bJ hi2 hall (by rw[hbi];unfold iH;rw[hjall,hkall,dt];rfl)⟩,by omega⟩
 ·have hin:i=f.blocks.length:=by simp at ci;omega
  rw[hin,qy] at hall
  refine y6<|ai<|ab Z<|z6<|zg<|zn (x:=.bool _) Z ?_
  rw[hall]
end Go.Proofs.YtdilpodccjlkgaaGreatDoor
namespace Go.Proofs.YtdilpodccjlkgaaGreatDoor
open Go.Proofs.Tryz
open Go.Proofs Go.Lib Go.Shelf Go.RowKit
set_option maxRecDepth 20000
variable {E:World}
theorem mV {α:Type} (g:α→Nat):∀(l:List α) (k:Nat),((l.take k).map g).sum≤(l.map g).sum
 |[],k=>by simp
 |x::l,0=>by simp
 |x::l,k+1=>by
  have:=mV g l k
  simp only[List.take_succ_cons,List.map_cons,List.sum_cons];omega
theorem Fs (l:List dG) (k:Nat):wP (l.take k)≤wP l:=mV _ l k
theorem Ft (l:List aF) (k:Nat):wX (l.take k)≤wX l:=mV _ l k
theorem nC {f:ac} (h:ng f) {k:Nat} (hk:k<f.blocks.length):wV f.vars+xe (f.blocks.take k)+wB f.blocks[k]≤4000:=by
 have h1:=h.2.2.2.2.2 (fun e=>by rw[e] at hk;exact absurd hk (Nat.not_lt_zero _))
 have h2:xe (f.blocks.take (k+1))≤xe f.blocks:=mV _ f.blocks (k+1)
 rw[uW hk] at h2
 omega
set_option maxHeartbeats 8000000 in
theorem vV (f:ac) (hf:sr f):aY prog E 8 [.agg (bE f)] [] (fun x _=>∃b:Bool,x=.bool b∧(b=true↔ng f)):=by
 obtain ⟨hf1,hf2,hf3,hf4⟩:=hf
 have hl1:=hf1.lt
 have hl3:=hf3.lt
 refine zp func8 Z (by decide) Z<|ai<|ya (cs:=_) Z Z Z<|ab Z<|z6<|zd<|zd<|ye (γ:=Unit) [1] (fun u=>[(27,.bool (AY f))]) (fun u=>[]) (fun u=>True) ?_ (fun _ _ h=>h) ?_
 ·refine aW<|au jg Z Yc Z Z<|aI Yn Z<|aq Z9 Z<|aZ Z Z<|aj Z<|zq (s:=16) Z (fun c1=>?_) (fun c1=>?_)
  ·refine z7 Z Z c1<|z7 Z Z c1<|z7 Z Z c1<|z7 Z Z c1<|aw Z c1 Z<|aj Z<|z7 Z Z Z<|z7 Z Z Z<|z7 Z Z Z<|z7 Z Z Z<|aw Z Z Z<|z6 ?_
   exact ⟨(),aK,⟨jb (by simp_all[AY]<;>grind),trivial⟩,aH,trivial⟩
  ·refine z8 Z Z c1<|au jg Z Z8 Z Z<|z8 Z Z c1<|aI Zg Z<|z8 Z Z c1<|aq ju Z<|z8 Z Z c1<|aZ Z Z<|ax Z c1 Z<|aj Z<|zq (s:=22) Z (fun c2=>?_) (fun c2=>?_)
   ·refine z7 Z Z c2<|z7 Z Z c2<|z7 Z Z c2<|z7 Z Z c2<|aw Z c2 Z<|z6 ?_
    exact ⟨(),aK,⟨jb (by simp_all[AY]<;>grind),trivial⟩,aH,trivial⟩
   ·refine z8 Z Z c2<|au jg Z j7 Z Z<|z8 Z Z c2<|aI jf Z<|z8 Z Z c2<|aq wy Z<|z8 Z Z c2<|aZ Z Z<|ax Z c2 Z<|z6 ?_
    exact ⟨(),aK,⟨jb (by simp_all[AY]<;>grind),trivial⟩,aH,trivial⟩
 ·rintro _ _
  refine zy Z (fun c1=>?_) (fun c1=>?_)
  ·refine ai<|ab Z<|z6<|zg<|zn (x:=.bool _) Z ?_
   exact ⟨_,rfl,fun h=>(by cases h),fun hl=>absurd hl (fun hl=>by have h1:=hl.1;have h2:=hl.2.1;have h3:=hl.2.2.1;unfold AY at c1;simp at c1;omega)⟩
  ·have hsz:f.vars.length≤100∧f.blocks.length≤40∧f.params.length≤20:=by unfold AY at c1;simp at c1;omega
   refine zi<|ai<|ao Z<|z6<|zd<|ai<|au jg Z Yc Z Z<|aI Yn Z<|aq Z9 Z<|aa Z<|z6<|zm<|y8 (γ:=Nat) [1,29,30] (fun k=>[(31,.int .i64 k),(3,.int .i64 (wV (f.vars.take k)))]) (fun k=>[]) (fun k=>k≤f.vars.length∧wV (f.vars.take k)≤400*k∧∀v∈f.vars.take k,v.name.size≤400) (fun k=>f.vars.length - k) 0 eo aH (⟨qw _,Nat.le_refl _,by simp⟩) ?_
   rintro k ⟨hk,hw,hv⟩
   refine ai<|ay Z Z<|z6<|zd<|zt Z (fun ck=>?_) (fun ck=>?_)
   ·have hk1:k<f.vars.length:=by omega
    have hs:=EF hk1
    refine zi<|zd<|zm<|ai<|za (qe Z9 Yd Z Z Z (qt (by omega)))<|ae isAgg61 Yd Z Z<|y7 (cs:=[.str ⟨#[]⟩,.int .i64 0]) zeroValue61 Z Z<|fun i5=>y1 Yd Z Z Z Z Z Z .head Z<|z6<|zd<|ai<|za (zf Zm Z Y8 (by decide) Z Z)<|za (zo (c:=.str _) Yh Z ⟨_,.head⟩ Z)<|za (Gv.lenT Zr Z)<|aZ Z Z<|z6<|zt Z (fun cn=>?_) (fun cn=>?_)
    ·refine ai<|ab Z<|z6<|zg<|zn (x:=.bool _) Z ?_
     exact ⟨_,rfl,fun h=>(by cases h),fun hl=>absurd hl (fun hl=>by have h1:=hl.2.2.2.1 _ (qx hk1);omega)⟩
    ·refine zi<|aW<|aa Z<|za (zf Zm Z Y8 (by decide) Z Z)<|za (zo (c:=.str _) Yh Z ⟨_,.head⟩ Z)<|za (Gv.lenT Zr Z)<|aE Z Z<|ao Z<|z6<|aW<|aE Z Z<|aa Z<|z6 ?_
     exact ⟨k+1,db,⟨rfl,congrArg (AV.int .i64) (by rw[hs];omega),trivial⟩,⟨_,(.drop (.refl _)),rfl⟩,⟨hk1,by omega,eQ hk1 hv (by omega)⟩,by omega⟩
   ·obtain rfl:k=f.vars.length:=by omega
    rw[qy] at hw hv
    rw[qy]
    refine y6<|zd<|ai<|au jg Z Z8 Z Z<|aI Zg Z<|aq ju Z<|aa Z<|z6<|zm<|y8 (γ:=Nat) [46,47] (fun k=>[(48,.int .i64 k),(3,.int .i64 (wV f.vars+xe (f.blocks.take k):Nat))]) (fun k=>[]) (fun k=>k≤f.blocks.length∧(0<k→wV f.vars+xe (f.blocks.take k)≤4000)∧xe (f.blocks.take k)≤4000∧∀b∈f.blocks.take k,zA b) (fun k=>f.blocks.length - k) 0 eo aH (⟨qw _,by omega,by simp[xe],by simp⟩) ?_
    rintro k ⟨hk,hw2,hw3,hb⟩
    refine ai<|ay Z Z<|z6<|zd<|zt Z (fun ck=>?_) (fun ck=>?_)
    ·have hk1:k<f.blocks.length:=by omega
     obtain ⟨hb1,hb2,hb3,hb4⟩:=hf4 _ (qx hk1)
     have hs:=uW hk1
     refine zi<|zd<|zm<|ai<|za (qe ju jx Z Z Z (qt (by omega)))<|ae Yo jx Z Z<|y7 (cs:=[.str ⟨#[]⟩,.raw (.slice none 0 0),.raw (.slice none 0 0),.int .i64 0,.int .i64 0,.int .i64 0,.int .i64 0]) Zl Z Z<|fun i7=>y1 jx Z Z Z Z Z Z .head Z<|z6<|zd<|zd<|ye (γ:=Unit) [3,7,46,47,48] (fun u=>[(67,.bool (AZ f.blocks[k]))]) (fun u=>[(i7,.cells 51 (dh f.blocks[k]))]) (fun u=>True) ?_ (fun _ _ h=>h) ?_
     ·refine aW<|za (zf ji Z Y8 (by decide) Z Z)<|za (zo (c:=.str _) Yh Z ⟨_,.head⟩ Z)<|za (Gv.lenT Zr Z)<|aZ Z Z<|aj Z<|zq (s:=56) Z (fun c3=>?_) (fun c3=>?_)
      ·refine z7 Z Z c3<|z7 Z Z c3<|z7 Z Z c3<|z7 Z Z c3<|aw Z c3 Z<|aj Z<|z7 Z Z Z<|z7 Z Z Z<|z7 Z Z Z<|z7 Z Z Z<|aw Z Z Z<|z6 ?_
       exact ⟨(),nJ,⟨jb (by simp_all[AZ]<;>grind),trivial⟩,aH,trivial⟩
      ·refine z8 Z Z c3<|za (zf ji Z Yl (by decide) Z Z)<|z8 Z Z c3<|za (zo (c:=.fro _ _) Yv Z ⟨_,.head⟩ Z)<|z8 Z Z c3<|aq Z3 Z<|z8 Z Z c3<|aZ Z Z<|ax Z c3 Z<|aj Z<|zq (s:=62) Z (fun c4=>?_) (fun c4=>?_)
       ·refine z7 Z Z c4<|z7 Z Z c4<|z7 Z Z c4<|z7 Z Z c4<|aw Z c4 Z<|z6 ?_
        exact ⟨(),nJ,⟨jb (by simp_all[AZ]<;>grind),trivial⟩,aH,trivial⟩
       ·refine z8 Z Z c4<|za (zf ji Z Zt (by decide) Z Z)<|z8 Z Z c4<|za (zo (c:=.fro _ _) Y9 Z ⟨_,.head⟩ Z)<|z8 Z Z c4<|aq Z0 Z<|z8 Z Z c4<|aZ Z Z<|ax Z c4 Z<|z6 ?_
        exact ⟨(),nJ,⟨jb (by simp_all[AZ]<;>grind),trivial⟩,aH,trivial⟩
     ·rintro _ _
      refine zy Z (fun c2=>?_) (fun c2=>?_)
      ·refine ai<|ab Z<|z6<|zg<|zn (x:=.bool _) Z ?_
       exact ⟨_,rfl,fun h=>(by cases h),fun hl=>absurd hl (fun hl=>by obtain ⟨h1,h2,h3,_⟩:=hl.2.2.2.2.1 _ (qx hk1);unfold AZ at c2;simp at c2;omega)⟩
      ·have hsb:f.blocks[k].name.size≤400∧f.blocks[k].phis.length≤400∧f.blocks[k].insts.length≤400:=by unfold AZ at c2;simp at c2;omega
       refine zi<|ai<|aa Z<|za (zf ji Z Y8 (by decide) Z Z)<|za (zo (c:=.str _) Yh Z ⟨_,.head⟩ Z)<|za (Gv.lenT Zr Z)<|za (zf ji Z Yl (by decide) Z Z)<|za (zo (c:=.fro _ _) Yv Z ⟨_,.head⟩ Z)<|aq Z3 Z<|za (zf ji Z Zt (by decide) Z Z)<|za (zo (c:=.fro _ _) Y9 Z ⟨_,.head⟩ Z)<|aq Z0 Z<|aE Z Z<|za (Gv.mul Z Z (by unfold lE;omega))<|aE Z Z<|aE Z Z<|ao Z<|z6<|zd<|ai<|za (zf ji Z Yl (by decide) Z Z)<|za (zo (c:=.fro _ _) Yv Z ⟨_,.head⟩ Z)<|aq Z3 Z<|aa Z<|z6<|zm<|y8 (γ:=Nat) [7,46,47,48,83,84] (fun m=>[(85,.int .i64 m),(3,.int .i64 (wV f.vars+xe (f.blocks.take k)+(f.blocks[k].name.size+10*(f.blocks[k].phis.length+f.blocks[k].insts.length))+wP (f.blocks[k].phis.take m):Nat))]) (fun m=>[(i7,.cells 51 (dh f.blocks[k]))]) (fun m=>m≤f.blocks[k].phis.length∧wP (f.blocks[k].phis.take m)≤800*m∧∀p∈f.blocks[k].phis.take m,p.args.length≤400∧p.from_.length≤400) (fun m=>f.blocks[k].phis.length - m) 0 ⟨Z,(congrArg (AV.int .i64) (by simp[wP]<;>omega)),trivial⟩ aH (⟨qw _,by simp[wP],by simp⟩) ?_
       rintro m ⟨hm,hwp,hp⟩
       refine ai<|ay Z Z<|z6<|zd<|zt Z (fun cm=>?_) (fun cm=>?_)
       ·have hm1:m<f.blocks[k].phis.length:=by omega
        obtain ⟨hq1,hq2⟩:=hb3 _ (qx hm1)
        have hl6:=hq1.lt
        have hl7:=hq2.lt
        have hs2:=EG hm1
        refine zi<|zd<|zm<|ai<|za (qe Z3 Zb Z Z Z (qt (by omega)))<|ae X1 Zb Z Z<|y7 (cs:=[.int .i64 0,.raw (.slice none 0 0),.raw (.slice none 0 0)]) Yg Z Z<|fun i9=>y1 Zb Z Z Z Z Z Z .head Z<|z6<|zd<|zd<|ye (γ:=Unit) [3,7,9,46,47,48,83,84,85] (fun u=>[(102,.bool (decide ((4000:Int)<(wV f.vars+xe (f.blocks.take k)+(f.blocks[k].name.size+10*(f.blocks[k].phis.length+f.blocks[k].insts.length))+wP (f.blocks[k].phis.take m):Nat))||(decide ((400:Int)<f.blocks[k].phis[m].args.length)||decide ((400:Int)<f.blocks[k].phis[m].from_.length))))]) (fun u=>[(i9,.cells 63 (fe f.blocks[k].phis[m])),(i7,.cells 51 (dh f.blocks[k]))]) (fun u=>True) ?_ (fun _ _ h=>h) ?_
        ·refine aW<|aa Z<|aZ Z Z<|aj Z<|zq (s:=91) Z (fun c5=>?_) (fun c5=>?_)
         ·refine z7 Z Z c5<|z7 Z Z c5<|z7 Z Z c5<|z7 Z Z c5<|aw Z c5 Z<|aj Z<|z7 Z Z Z<|z7 Z Z Z<|z7 Z Z Z<|z7 Z Z Z<|aw Z Z Z<|z6 ?_
          exact ⟨(),sY,⟨jb (by simp_all<;>grind),trivial⟩,aH,trivial⟩
         ·refine z8 Z Z c5<|za (zf jz Z j7 (by decide) Z Z)<|z8 Z Z c5<|za (zo (c:=.fro _ _) jf Z ⟨_,.head⟩ Z)<|z8 Z Z c5<|aq wy Z<|z8 Z Z c5<|aZ Z Z<|ax Z c5 Z<|aj Z<|zq (s:=97) Z (fun c6=>?_) (fun c6=>?_)
          ·refine z7 Z Z c6<|z7 Z Z c6<|z7 Z Z c6<|z7 Z Z c6<|aw Z c6 Z<|z6 ?_
           exact ⟨(),sY,⟨jb (by simp_all<;>grind),trivial⟩,aH,trivial⟩
          ·refine z8 Z Z c6<|za (zf jz Z j7 (by decide) Z Z)<|z8 Z Z c6<|za (zo (c:=.fro _ _) jf Z ⟨_,.head⟩ Z)<|z8 Z Z c6<|aq wy Z<|z8 Z Z c6<|aZ Z Z<|ax Z c6 Z<|z6 ?_
           exact ⟨(),sY,⟨jb (by simp_all<;>grind),trivial⟩,aH,trivial⟩
        ·rintro _ _
         refine zy Z (fun cp=>?_) (fun cp=>?_)
         ·refine ai<|ab Z<|z6<|zg<|zn (x:=.bool _) Z ?_
          exact ⟨_,rfl,fun h=>(by cases h),fun hl=>absurd hl (fun hl=>by obtain ⟨_,_,_,h4,_⟩:=hl.2.2.2.2.1 _ (qx hk1);have h5:=h4 _ (qx hm1);have h9:=nC hl hk1;have hwb:wB f.blocks[k]=f.blocks[k].name.size+10*(f.blocks[k].phis.length+f.blocks[k].insts.length)+wP f.blocks[k].phis+wX f.blocks[k].insts:=rfl;have h10:=Fs f.blocks[k].phis m;simp only[Bool.or_eq_true,wg] at cp;omega)⟩
         ·rcases Bool.or_eq_false_iff.1 cp with ⟨a1,a2⟩
          rcases Bool.or_eq_false_iff.1 a2 with ⟨a3,a4⟩
          have a3:=we a3
          have a4:=we a4
          refine zi<|aW<|aa Z<|za (zf jz Z j7 (by decide) Z Z)<|za (zo (c:=.fro _ _) jf Z ⟨_,.head⟩ Z)<|aq wy Z<|za (zf jz Z j7 (by decide) Z Z)<|za (zo (c:=.fro _ _) jf Z ⟨_,.head⟩ Z)<|aq wy Z<|aE Z Z<|aE Z Z<|ao Z<|z6<|aW<|aE Z Z<|aa Z<|z6 ?_
          exact ⟨m+1,yI,⟨rfl,congrArg (AV.int .i64) (by rw[hs2];omega),trivial⟩,⟨_,(.drop (.refl _)),rfl⟩,⟨hm1,by omega,eQ hm1 hp ⟨by omega,by omega⟩⟩,by omega⟩
       ·obtain rfl:m=f.blocks[k].phis.length:=by omega
        rw[qy] at hwp hp
        rw[qy]
        refine y6<|zd<|ai<|za (zf ji Z Zt (by decide) Z Z)<|za (zo (c:=.fro _ _) Y9 Z ⟨_,.head⟩ Z)<|aq Z0 Z<|aa Z<|z6<|zm<|y8 (γ:=Nat) [46,47,48,114,115] (fun m=>[(116,.int .i64 m),(3,.int .i64 (wV f.vars+xe (f.blocks.take k)+(f.blocks[k].name.size+10*(f.blocks[k].phis.length+f.blocks[k].insts.length))+wP f.blocks[k].phis+wX (f.blocks[k].insts.take m):Nat))]) (fun m=>[(i7,.cells 51 (dh f.blocks[k]))]) (fun m=>m≤f.blocks[k].insts.length∧wX (f.blocks[k].insts.take m)≤400*m∧∀p∈f.blocks[k].insts.take m,p.args.length≤400) (fun m=>f.blocks[k].insts.length - m) 0 ⟨Z,(congrArg (AV.int .i64) (by simp[wX]<;>omega)),trivial⟩ aH (⟨qw _,by simp[wX],by simp⟩) ?_
        rintro m ⟨hm,hwx,hx⟩
        refine ai<|ay Z Z<|z6<|zd<|zt Z (fun cm=>?_) (fun cm=>?_)
        ·have hm1:m<f.blocks[k].insts.length:=by omega
         have hq1:=hb4 _ (qx hm1)
         have hl6:=hq1.lt
         have hs2:=EH hm1
         refine zi<|zd<|zm<|ai<|za (qe Z0 jy Z Z Z (qt (by omega)))<|ae Zz jy Z Z<|y7 (cs:=[.int .i64 0,.int .i64 0,.raw (.slice none 0 0),.int .i64 0]) Zh Z Z<|fun i11=>y1 jy Z Z Z Z Z Z .head Z<|z6<|zd<|zd<|ye (γ:=Unit) [3,11,46,47,48,114,115,116] (fun u=>[(127,.bool (decide ((4000:Int)<(wV f.vars+xe (f.blocks.take k)+(f.blocks[k].name.size+10*(f.blocks[k].phis.length+f.blocks[k].insts.length))+wP f.blocks[k].phis+wX (f.blocks[k].insts.take m):Nat))||decide ((400:Int)<f.blocks[k].insts[m].args.length)))]) (fun u=>[(i11,.cells 54 (bH f.blocks[k].insts[m])),(i7,.cells 51 (dh f.blocks[k]))]) (fun u=>True) ?_ (fun _ _ h=>h) ?_
         ·refine aW<|aa Z<|aZ Z Z<|aj Z<|zq (s:=122) Z (fun c7=>?_) (fun c7=>?_)
          ·refine z7 Z Z c7<|z7 Z Z c7<|z7 Z Z c7<|z7 Z Z c7<|aw Z c7 Z<|z6 ?_
           exact ⟨(),wH,⟨jb (by simp_all<;>grind),trivial⟩,aH,trivial⟩
          ·refine z8 Z Z c7<|za (zf j5 Z j7 (by decide) Z Z)<|z8 Z Z c7<|za (zo (c:=.fro _ _) jf Z ⟨_,.head⟩ Z)<|z8 Z Z c7<|aq wy Z<|z8 Z Z c7<|aZ Z Z<|ax Z c7 Z<|z6 ?_
           exact ⟨(),wH,⟨jb (by simp_all<;>grind),trivial⟩,aH,trivial⟩
         ·rintro _ _
          refine zy Z (fun cp=>?_) (fun cp=>?_)
          ·refine ai<|ab Z<|z6<|zg<|zn (x:=.bool _) Z ?_
           exact ⟨_,rfl,fun h=>(by cases h),fun hl=>absurd hl (fun hl=>by obtain ⟨_,_,_,_,h4⟩:=hl.2.2.2.2.1 _ (qx hk1);have h5:=h4 _ (qx hm1);have h9:=nC hl hk1;have hwb:wB f.blocks[k]=f.blocks[k].name.size+10*(f.blocks[k].phis.length+f.blocks[k].insts.length)+wP f.blocks[k].phis+wX f.blocks[k].insts:=rfl;have h10:=Ft f.blocks[k].insts m;simp only[Bool.or_eq_true,wg] at cp;omega)⟩
          ·rcases Bool.or_eq_false_iff.1 cp with ⟨a1,a2⟩
           have a2:=we a2
           refine zi<|aW<|aa Z<|za (zf j5 Z j7 (by decide) Z Z)<|za (zo (c:=.fro _ _) jf Z ⟨_,.head⟩ Z)<|aq wy Z<|aE Z Z<|ao Z<|z6<|aW<|aE Z Z<|aa Z<|z6 ?_
           exact ⟨m+1,nJ,⟨rfl,congrArg (AV.int .i64) (by rw[hs2];omega),trivial⟩,⟨_,(.drop (.refl _)),rfl⟩,⟨hm1,by omega,eQ hm1 hx (by omega)⟩,by omega⟩
        ·obtain rfl:m=f.blocks[k].insts.length:=by omega
         rw[qy] at hwx hx
         rw[qy]
         refine y6<|ai<|aa Z<|aZ Z Z<|z6<|zt Z (fun cz=>?_) (fun cz=>?_)
         ·refine ai<|ab Z<|z6<|zg<|zn (x:=.bool _) Z ?_
          exact ⟨_,rfl,fun h=>(by cases h),fun hl=>absurd hl (fun hl=>by have h9:=nC hl hk1;have hwb:wB f.blocks[k]=f.blocks[k].name.size+10*(f.blocks[k].phis.length+f.blocks[k].insts.length)+wP f.blocks[k].phis+wX f.blocks[k].insts:=rfl;omega)⟩
         ·have hwb:wB f.blocks[k]=f.blocks[k].name.size+10*(f.blocks[k].phis.length+f.blocks[k].insts.length)+wP f.blocks[k].phis+wX f.blocks[k].insts:=rfl
          refine zi<|aW<|aE Z Z<|aa Z<|z6 ?_
          exact ⟨k+1,eo,⟨rfl,congrArg (AV.int .i64) (by rw[hs];omega),trivial⟩,⟨_,(.drop (.refl _)),rfl⟩,⟨hk1,by omega,by omega,eQ hk1 hb ⟨hsb.1,hsb.2.1,hsb.2.2,hp,hx⟩⟩,by omega⟩
    ·obtain rfl:k=f.blocks.length:=by omega
     rw[qy] at hw2 hw3 hb
     refine y6<|ai<|ab Z<|z6<|zg<|zn (x:=.bool _) Z ?_
     exact ⟨_,rfl,fun _=>⟨hsz.1,hsz.2.1,hsz.2.2,hv,hb,fun hne=>hw2 (List.length_pos_iff.2 hne)⟩,fun _=>rfl⟩
theorem oA (f:ac) (hf:ta f) (hn:mD f) (hL:bz E):aM prog E 76 [.agg (bE f)] (.bool (decide (bR f))):=by
 refine zp func76 Z (by decide) Z<|ai<|ya (cs:=_) Z Z Z<|ab Z<|z6<|ai<|ae jv jj Z Z<|zh (pH _ (by assumption) (by assumption) hL) Z<|ab Z<|z6<|zg<|zn (x:=.bool _) Z ?_
 rfl
noncomputable def DR (f:ac):Bool:=@decide (ng f) (Classical.propDecidable _)
theorem mW (f:ac):DR f=true↔ng f:=by unfold DR;exact @decide_eq_true_iff _ (Classical.propDecidable _)
theorem BO (f:ac) (hf:sr f):aM prog E 8 [.agg (bE f)] (.bool (DR f)):=
 (vV f hf).mono fun x O' ⟨b,e,h⟩=>by
  rw[e]
  congr 1
  rw[w3,h,mW]
theorem rO (f:ac) (hE:bW f) (hf:small f) (hS:bR f):aM prog E 21 [.agg (bE f)] (.bool (jU f&&iV f)):=by
 have hn:=hf.2.2.1
 refine zp func21 Z (by decide) Z<|ai<|ya (cs:=_) Z Z Z<|ab Z<|z6<|zd<|ai<|au jg Z Z8 Z Z<|aI Zg Z<|aq ju Z<|aa Z<|z6<|zm<|y8 (γ:=Nat) [1,8,9] (fun i=>[(10,.int .i64 i)]) (fun i=>[]) (fun i=>i≤f.blocks.length∧(f.blocks.take i).all (fun b=>!(b.insts.any fun x=>decide (x.op=25)||decide (x.op=26)))=true) (fun i=>f.blocks.length - i) 0 aK aH (⟨qw _,Z⟩) ?_
 rintro i ⟨hi,hall⟩
 refine ai<|ay Z Z<|z6<|zd<|zt Z (fun ci=>?_) (fun ci=>?_)
 ·have hi2:i<f.blocks.length:=by simp at ci;omega
  obtain ⟨b,hbi⟩:∃b,f.blocks[i]=b:=⟨_,rfl⟩
  have hget:f.blocks[i]?=some b:=by rw[qt hi2,hbi]
  have hmem:b∈f.blocks:=hbi▸qx hi2
  obtain ⟨hb0,hb1,hb2,hb3,hb4⟩:=hf.2.2.2.2 b hmem
  obtain ⟨hPh,hIn,hTm⟩:=hS.2.2.2.2.2 b hmem
  refine zi<|zd<|zm<|ai<|za (bv i ju jx Z Z Z hget)<|ae Yo jx Z Z<|y7 (cs:=[.str ⟨#[]⟩,.raw (.slice none 0 0),.raw (.slice none 0 0),.int .i64 0,.int .i64 0,.int .i64 0,.int .i64 0]) Zl Z Z<|fun i4=>y1 jx Z Z Z Z Z Z .head Z<|ze (yd (t:=4) Z .head)<|z6<|ai<|au ji Z Zt Z Z<|aI Y9 Z<|aq Z0 Z<|aa Z<|z6<|zm<|y8 (γ:=Nat) [1,8,9,10,15,16] (fun k=>[(17,.int .i64 k)]) (fun k=>[]) (fun k=>k≤b.insts.length∧(b.insts.take k).all (fun x=>!(decide (x.op=25)||decide (x.op=26)))=true) (fun k=>b.insts.length - k) 0 aK aH (⟨qw _,Z⟩) ?_
  rintro k ⟨hk,hkall⟩
  refine ai<|ay Z Z<|z6<|zd<|zt Z (fun ck=>?_) (fun ck=>?_)
  ·have hk2:k<b.insts.length:=by simp at ck;omega
   have hI:=(gN (hIn _ (qx hk2))).op
   refine zi<|zd<|zm<|ai<|za (bv k Z0 jy Z Z Z (qt hk2))<|ae Zz jy Z Z<|y7 (cs:=[.int .i64 0,.int .i64 0,.raw (.slice none 0 0),.int .i64 0]) Zh Z Z<|fun i6=>y1 jy Z Z Z Z Z Z .head Z<|ze (yd (t:=6) Z .head)<|z6<|ai<|au j5 Z Z2 Z Z<|aA Z4 Z<|za (q5 Z Z)<|z6<|zt Z (fun cq=>?_) (fun cq=>?_)
   ·have hbad:(b.insts.any fun x=>decide (x.op=25)||decide (x.op=26))=true:=List.any_eq_true.2 ⟨_,qx hk2,by simp;omega⟩
    refine ai<|ab Z<|z6<|zg<|zn (x:=.bool _) Z ?_
    rw[show jU f=false from Bool.eq_false_iff.2 (df hi2 (by rw[hbi,hbad];rfl))];rfl
   ·refine zi<|aW<|aE Z Z<|aa Z<|z6 ?_
    exact ⟨k+1,yI,aK,aH,⟨hk2,bJ hk2 hkall (by simp;omega)⟩,by omega⟩
  ·have hkn:k=b.insts.length:=by simp at ck;omega
   rw[hkn,qy] at hkall
   have hgood:(b.insts.any fun x=>decide (x.op=25)||decide (x.op=26))=false:=List.any_eq_false.2 fun x hx=>by have:=List.all_eq_true.1 hkall x hx;simpa using this
   refine y6<|aW<|aE Z Z<|aa Z<|z6 ?_
   exact ⟨i+1,db,aK,aH,⟨hi2,bJ hi2 hall (by rw[hbi,hgood];rfl)⟩,by omega⟩
 ·have hin:i=f.blocks.length:=by simp at ci;omega
  rw[hin,qy] at hall
  refine y6<|ai<|ae jv jj Z Z<|zh (qY f hE hf hS) Z<|ab Z<|z6<|zg<|zn (x:=.bool _) Z ?_
  rw[show jU f=true from hall];rfl
theorem rh (f:ac) (hf:small f) (hL:bz E):aM prog E 39 [.agg (bE f)] (.bool (bi f)):=by
 have hs:=oA (E:=E) f hf.ok hf.names hL
 refine zp func39 Z (by decide) Z<|ai<|ya (cs:=_) Z Z Z<|ab Z<|z6<|ai<|ae jv jj Z Z<|zh (hs) Z ?_
 by_cases g4:bR f
 ·refine aj Z<|z8 Z Z (w8 g4)<|ae jv jj Z Z<|z8 Z Z (w8 g4)<|zh (rN f hf g4) Z<|za (sX Z (w8 g4) Z)<|ab Z<|z6<|zg<|zn (x:=.bool _) Z ?_
  exact jb (by unfold bi;rw[hU,w8 g4];rfl)
 ·refine aj Z<|z7 Z Z (w9 g4)<|z7 Z Z (w9 g4)<|za (rz Z (w9 g4) Z)<|ab Z<|z6<|zg<|zn (x:=.bool _) Z ?_
  exact jb (by unfold bi;rw[hU,w9 g4];rfl)
theorem rP (f:ac) (hw:sr f) (hL:bz E):aM prog E 20 [.agg (bE f)] (.bool (DR f&&bi f)):=by
 refine zp func20 Z (by decide) Z<|ai<|ya (cs:=_) Z Z Z<|ab Z<|z6<|ai<|ae jv jj Z Z<|zh (BO f hw) Z<|aj Z<|zq (s:=5) Z (fun g=>?_) (fun g=>?_)
 ·refine z8 Z Z g<|ae jv jj Z Z<|z8 Z Z g<|zh (rh f ((mW f).1 g).small hL) Z<|aw Z g Z<|ab Z<|z6<|zg<|zn (x:=.bool _) Z ?_
  exact jb (by rw[g];rfl)
 ·refine z7 Z Z g<|z7 Z Z g<|ax Z g Z<|ab Z<|z6<|zg<|zn (x:=.bool _) Z ?_
  exact jb (by rw[g];rfl)
noncomputable def ij (f:ac):Bool:=DR f&&bi f&&(dD f&&jU f)
theorem DS {a b:Bool} (h:(a&&b)=true):a=true∧b=true:=by simpa using h
theorem vW {f:ac} (h:bi f=true):iV f=dD f:=
 C9 (dO h) fun b hb p hp c hc=>by
  have h1:=((et h).2.2.2.2.2 b hb).1 p hp
  have h2:=List.all_eq_true.1 h1.2.2.2.2 c hc
  simpa [eL] using h2
theorem rQ (f:ac) (hw:sr f) (hL:bz E):aM prog E 10 [.agg (bE f)] (.bool (ij f)):=by
 refine zp func10 Z (by decide) Z<|ai<|ya (cs:=_) Z Z Z<|ab Z<|z6<|ai<|ae jv jj Z Z<|zh (rP f hw hL) Z<|aj Z<|zq (s:=5) Z (fun g=>?_) (fun g=>?_)
 ·refine z8 Z Z g<|ae jv jj Z Z<|z8 Z Z g<|zh (rO f (dO (DS g).2) ((mW f).1 (DS g).1).small (et (DS g).2)) Z<|aw Z g Z<|ab Z<|z6<|zg<|zn (x:=.bool _) Z ?_
  exact jb (by unfold ij;rw[g,vW (DS g).2,Bool.and_comm];rfl)
 ·refine z7 Z Z g<|z7 Z Z g<|ax Z g Z<|ab Z<|z6<|zg<|zn (x:=.bool _) Z ?_
  exact jb (by unfold ij;rw[g];rfl)
end Go.Proofs.YtdilpodccjlkgaaGreatDoor
namespace Go.Proofs.YtdilpodccjlkgaaGreatDoor
open Go.Proofs.Tryz
end Go.Proofs.YtdilpodccjlkgaaGreatDoor
