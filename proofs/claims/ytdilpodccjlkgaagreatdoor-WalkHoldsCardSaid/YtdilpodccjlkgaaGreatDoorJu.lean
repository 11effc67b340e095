/- The first check of a block; how it comes from another block; whether it was passed there; what becomes of a program when it moves. Plain law. No conditions. -/
import Derived.Test.YtdilpodccjlkgaaGreatDoorJt
import Derived.Test.YtdilpodccjlkgaaGreatDoorJh
import Derived.Test.YtdilpodccjlkgaaGreatDoorJm
set_option linter.unusedVariables false
set_option linter.unusedSimpArgs false
set_option linter.unusedSectionVars false
namespace Go.Proofs.YtdilpodccjlkgaaGreatDoor
open Go.Proofs.Tryz
open Go.Proofs Go.Lib Go.Shelf Go.RowKit
variable {E:World}
set_option maxRecDepth 20000
theorem D2 {f:ac} {x:aF} {m:Nat} (e:x.op=1) (h:m<(gM f x).length):(gM f x)[m]=bf f x.dst:=by
 have h2:(gM f x)[m]?=some (bf f x.dst):=by
  unfold gM at h ⊢
  rw[if_pos e] at h ⊢
  simp at h
  subst h;rfl
 rw[qt h] at h2
 exact Option.some.inj h2
theorem D3 {f:ac} {x:aF} {m:Nat} (e:¬x.op=1) (h:m<(gM f x).length) (h':m<(bb x.op).length):(gM f x)[m]=(bb x.op)[m]:=by
 have h2:(gM f x)[m]?=some ((bb x.op)[m]):=by
  unfold gM
  rw[if_neg e,qt h']
 rw[qt h] at h2
 exact Option.some.inj h2
theorem B5 {f:ac} {t:fk} (h:bH f t=true):t.kind=0∨t.kind=1∨t.kind=2:=by
 unfold bH at h
 by_cases h0:t.kind=0
 ·exact .inl h0
 ·rw[if_neg h0] at h
  by_cases h1:t.kind=1
  ·exact .inr (.inl h1)
  ·rw[if_neg h1] at h
   by_cases h2:t.kind=2
   ·exact .inr (.inr h2)
   ·rw[if_neg h2] at h;cases h
set_option maxHeartbeats 8000000 in
theorem rU (f:ac) (hf:small f) (hS:bS f):aM prog E 77 [.agg (bD f)] (.bool (f.blocks.all (iK f))):=by
 have hn:=hf.2.2.1
 refine zp func77 Z (by decide) Z<|ai<|y9 (cs:=_) Z Z Z<|ab Z<|z6<|zd<|ai<|au jg Z Z8 Z Z<|aI Zh Z<|ap ju Z<|aa Z<|z6<|zk<|y7 (γ:=Nat) [1,16,17] (fun i=>[(18,.int .i64 i)]) (fun i=>[]) (fun i=>i≤f.blocks.length∧(f.blocks.take i).all (iK f)=true) (fun i=>f.blocks.length - i) 0 aK aH (⟨qw _,Z⟩) ?_
 rintro i ⟨hi,hall⟩
 refine ai<|ax Z Z<|z6<|zd<|zt Z (fun ci=>?_) (fun ci=>?_)
 ·have hi2:i<f.blocks.length:=by simp at ci;omega
  obtain ⟨b,hbi⟩:∃b,f.blocks[i]=b:=⟨_,rfl⟩
  have hget:f.blocks[i]?=some b:=by rw[qt hi2,hbi]
  have hmem:b∈f.blocks:=hbi▸qx hi2
  obtain ⟨hb0,hb1,hb2,hb3,hb4⟩:=hf.2.2.2.2 b hmem
  obtain ⟨hPh,hIn,hTm⟩:=hS.2.2.2.2.2 b hmem
  have hbad:iK f b=false→f.blocks.all (iK f)=false:=fun h=>Bool.eq_false_iff.2 (dh hi2 (by rw[hbi];exact h))
  refine zh<|zd<|zk<|ai<|za (bv i ju jy Z Z Z hget)<|ae Yo jy Z Z<|y6 (cs:=[.str ⟨#[]⟩,.raw (.slice none 0 0),.raw (.slice none 0 0),.int .i64 0,.int .i64 0,.int .i64 0,.int .i64 0]) Zl Z Z<|fun i4=>y1 jy Z Z Z Z Z Z .head Z<|ze (yc (t:=4) Z .head)<|z6<|zd<|ai<|au ji Z Yl Z Z<|aI Yv Z<|ap Z4 Z<|aa Z<|z6<|zk<|y7 (γ:=Nat) [1,4,16,17,18,23,24] (fun j=>[(25,.int .i64 j)]) (fun j=>[]) (fun j=>j≤b.phis.length∧(b.phis.take j).all (tn f)=true) (fun j=>b.phis.length - j) 0 aK aH (⟨qw _,Z⟩) ?_
  rintro j ⟨hj,hjall⟩
  refine ai<|ax Z Z<|z6<|zd<|zt Z (fun cj=>?_) (fun cj=>?_)
  ·have hj2:j<b.phis.length:=by simp at cj;omega
   obtain ⟨p,hp⟩:∃p,b.phis[j]=p:=⟨_,rfl⟩
   have hpm:p∈b.phis:=hp▸qx hj2
   obtain ⟨hpd,hpl,hpn,hpa,hpf⟩:=hPh p hpm
   have hpb:=(hb3 p hpm).1
   refine zh<|zd<|zk<|ai<|za (bv j Z4 Zb Z Z Z (by rw[qt hj2,hp])) ?_
   refine ae X1 Zb Z Z<|y6 (cs:=[.int .i64 0,.raw (.slice none 0 0),.raw (.slice none 0 0)]) Yf Z Z<|fun i6=>y1 Zb Z Z Z Z Z Z .head Z<|ze (yc (t:=6) Z .head)<|z6<|ai<|au Z0 Z j7 Z Z<|aI je Z<|ap wy Z<|aa Z<|z6<|zk<|y7 (γ:=Nat) [1,4,6,16,17,18,23,24,25,30,31] (fun k=>[(32,.int .i64 k)]) (fun k=>[]) (fun k=>k≤p.args.length∧(p.args.take k).all (fun v=>decide (bf f v=bf f p.dst))=true) (fun k=>p.args.length - k) 0 aK aH (⟨qw _,Z⟩) ?_
   rintro k ⟨hk,hkall⟩
   refine ai<|ax Z Z<|z6<|zd<|zt Z (fun ck=>?_) (fun ck=>?_)
   ·have hk2:k<p.args.length:=by simp at ck;omega
    obtain ⟨v,hv⟩:∃v,p.args[k]=v:=⟨_,rfl⟩
    have hvv:=List.all_eq_true.1 hpa v (hv▸qx hk2)
    refine zh<|zd<|zk<|ai<|za (bv k wy wz Z Z Z (by rw[qt hk2,hv])) ?_
    refine aA j6 Z<|ak Z<|z6<|zd<|zr (fun j=>false) (by kernel_rfl) Z (zj (.rest _))<|ad 0 Z (yx jv jj Z Z)<|ad 1 Z (cD Z)<|ad 3 Z (yx jv jj Z Z)<|ad 4 Z (bM Z0 Z wz Z Z)<|ad 5 Z (cR j6 Z)<|aQ 2 Z<|zg (fP f v hvv) Z<|z6<|aQ 6 Z<|zg (fP f p.dst hpd) Z<|z6<|ad 7 Z (Gv.neqI Z Z)<|bJ<|zy Z (fun cq=>?_) (fun cq=>?_)
    ·have hq:¬bf f v=bf f p.dst:=by simpa using cq
     have hph:tn f p=false:=by
      unfold tn
      rw[show (p.args.any fun v=>!decide (bf f v=bf f p.dst))=true from List.any_eq_true.2 ⟨v,hv▸qx hk2,by simp[hq]⟩];rfl
     refine ai<|ab Z<|z6<|zi<|zn (x:=.bool _) Z ?_
     rw[hbad (by unfold iK;rw[show b.phis.all (tn f)=false from Bool.eq_false_iff.2 (dh hj2 (by rw[hp];exact hph))];rfl)]
    ·have hq:bf f v=bf f p.dst:=by simpa using cq
     refine zh<|aT<|aC Z Z<|aa Z<|z6 ?_
     exact ⟨k+1,pe,aK,aH,⟨hk2,bI hk2 hkall (by rw[hv];simp[hq])⟩,by omega⟩
   ·have hkn:k=p.args.length:=by simp at ck;omega
    rw[hkn,qy] at hkall
    have hph:tn f p=true:=by
     unfold tn
     rw[show (p.args.any fun v=>!decide (bf f v=bf f p.dst))=false from List.any_eq_false.2 fun v hv=>by have:=List.all_eq_true.1 hkall v hv;simpa using this];rfl
    refine y5<|aT<|aC Z Z<|aa Z<|z6 ?_
    exact ⟨j+1,lu,aK,aH,⟨hj2,bI hj2 hjall (by rw[hp];exact hph)⟩,by omega⟩
  ·have hjn:j=b.phis.length:=by simp at cj;omega
   subst hjn
   rw[qy] at hjall
   refine y5<|zd<|ai<|au ji Z Zq Z Z<|aI Y4 Z<|ap jz Z<|aa Z<|z6<|zk<|y7 (γ:=Nat) [1,4,16,17,18,47,48] (fun k=>[(49,.int .i64 k)]) (fun k=>[]) (fun k=>k≤b.insts.length∧(b.insts.take k).all (dL f)=true) (fun k=>b.insts.length - k) 0 aK aH (⟨qw _,Z⟩) ?_
   rintro k ⟨hk,hkall⟩
   refine ai<|ax Z Z<|z6<|zd<|zt Z (fun ck=>?_) (fun ck=>?_)
   ·have hk2:k<b.insts.length:=by simp at ck;omega
    obtain ⟨z,hz⟩:∃z,b.insts[k]=z:=⟨_,rfl⟩
    have hzm:z∈b.insts:=hz▸qx hk2
    have hI:=gN (hIn z hzm)
    have hzl:=hb4 z hzm
    have hwl:=B4 hI
    have hdst:cS z.op=true→bd f z.dst=true:=fun h=>by
     rcases hI.dst with ⟨d1,_⟩|⟨_,_,d3⟩
     ·rw[h] at d1;cases d1
     ·exact d3
    have hcopy:z.op=1→cS z.op=true:=fun h=>by rw[h];rfl
    have hib:dL f z=false→f.blocks.all (iK f)=false:=fun h=>hbad (by unfold iK;rw[hjall,show b.insts.all (dL f)=false from Bool.eq_false_iff.2 (dh hk2 (by rw[hz];exact h))];rfl)
    refine zh<|zd<|zk<|ai<|za (bv k jz jx Z Z Z (by rw[qt hk2,hz])) ?_
    refine ae Y0 jx Z Z<|y6 (cs:=[.int .i64 0,.int .i64 0,.raw (.slice none 0 0),.int .i64 0]) Zf Z Z<|fun i10=>y1 jx Z Z Z Z Z Z .head Z<|ze (yc (t:=10) Z .head)<|z6<|zd<|ye (γ:=Nat) [1,4,10,16,17,18,47,48,49] (fun g=>[(11,.po g 0)]) (fun g=>[(g,.cells 154 (rL (bW z.op)))]) (fun g=>True) ?_ (fun _ _ h=>h) ?_
    ·refine zr (fun j=>false) (by kernel_rfl) Z (zj (.rest _))<|ad 1 Z (bM j5 Z Z2 Z Z)<|ad 2 Z (cR Z3 Z)<|yr (i:=0) (j:=5) Z Z (by kernel_rfl) ?_ ?_
     ·refine zg (iU) Z<|z6<|ad 3 Z (bv z.op.toNat Xd Ys Z Z (by have:=hI.op;omega) (rm hI.op))<|ad 4 Z (yx isAgg154 Ys Z Z)<|aQ 5 Z<|y6 (cs:=[.str ⟨#[]⟩,.str ⟨#[]⟩,.str ⟨#[]⟩]) Xh Z Z<|fun i11=>z6<|aQ 6 Z<|y1 Ys Z Z Z Z Z Z .head Z<|z6<|bJ ?_
      exact ⟨i11,tg,aK,aH,trivial⟩
     ·refine y6 (cs:=[.str ⟨#[]⟩,.str ⟨#[]⟩,.str ⟨#[]⟩]) Xh Z Z<|fun i11=>z6<|aQ 0 Z<|zg (iU) Z<|z6<|ad 3 Z (bv z.op.toNat Xd Ys Z Z (by have:=hI.op;omega) (rm hI.op))<|ad 4 Z (yx isAgg154 Ys Z Z)<|aQ 6 Z<|y1 Ys Z Z Z Z Z Z .head Z<|z6<|bJ ?_
      exact ⟨i11,tg,aK,aH,trivial⟩
    ·rintro i11 _
     refine zd<|ai<|au j5 Z j7 Z Z<|aI je Z<|ap wy Z<|aa Z<|z6<|zk<|y7 (γ:=Nat) [1,4,10,11,16,17,18,47,48,49,60] (fun m=>[(61,.int .i64 m)]) (fun m=>[(i11,.cells 154 (rL (bW z.op)))]) (fun m=>m≤z.args.length∧(z.args.take m).map (bf f)=(gM f z).take m) (fun m=>z.args.length - m) 0 aK aH (⟨qw _,by simp⟩) ?_
     rintro m ⟨hm,hmall⟩
     refine ai<|ax Z Z<|z6<|zd<|zt Z (fun cm=>?_) (fun cm=>?_)
     ·have hm2:m<z.args.length:=by simp at cm;omega
      have hmw:m<(gM f z).length:=by omega
      have hmt:m<(bb z.op).length:=by have:=hI.len;omega
      obtain ⟨v,hv⟩:∃v,z.args[m]=v:=⟨_,rfl⟩
      have hvv:=hI.args v (hv▸qx hm2)
      obtain ⟨c,hc,hct⟩:=yE hmt
      have hbadm:¬bf f v=(gM f z)[m]→f.blocks.all (iK f)=false:=fun h=>hib (by rw[rn hI,w9 (CL hm2 hmw (by rw[hv];exact h))];rfl)
      refine zh<|zd<|zk<|ai<|aa Z<|ak Z<|z6<|ai<|za (zf Y3 Z Y9 (by decide) Z Z)<|za (zo (c:=.str _) Yg Z ⟨_,.head⟩ Z)<|aa Z<|za (Gv.indexT (j:=m) Zs Z Z Z hc)<|zg (rl (c.toNat:Int)) Z<|ak Z<|z6<|zd<|ai<|za (zf Y3 Z Y9 (by decide) Z Z)<|za (zo (c:=.str _) Yg Z ⟨_,.head⟩ Z)<|za (q4 Z Z)<|z6<|zy Z (fun cw=>?_) (fun cw=>?_)
      ·have ew:z.op=1:=(oW hI.op).1 (by simpa using cw)
       refine aT<|ae jv jj Z Z<|au j5 Z wz Z Z<|aA j6 Z<|zg (fP f z.dst (hdst (hcopy ew))) Z<|ak Z<|z6<|zd<|zr (fun j=>false) (by kernel_rfl) Z (zj (.rest _))<|ad 0 Z (yx jv jj Z Z)<|ad 1 Z (bM j5 Z j7 Z Z)<|ad 2 Z (fa je Z)<|ad 3 Z (cD Z)<|ad 4 Z (bv m wy wz Z Z Z (by rw[qt hm2,hv])) ?_
       refine ad 5 Z (cR j6 Z)<|ad 7 Z (cD Z)<|aQ 6 Z<|zg (fP f v hvv) Z<|z6<|ad 8 Z (Gv.neqI Z Z)<|bJ<|zy Z (fun cq=>?_) (fun cq=>?_)
       ·have hq:¬bf f v=bf f z.dst:=by simpa using cq
        refine ai<|ab Z<|z6<|zi<|zn (x:=.bool _) Z ?_
        rw[hbadm (by rw[D2 ew hmw];exact hq)]
       ·have hq:bf f v=bf f z.dst:=by simpa using cq
        refine zh<|aT<|aC Z Z<|aa Z<|z6 ?_
        exact ⟨m+1,pe,aK,aH,⟨hm2,iH hm2 hmw hmall (by rw[hv,D2 ew hmw];exact hq)⟩,by omega⟩
      ·have ew:¬z.op=1:=fun e=>by have:=(oW hI.op).2 e;simp[this] at cw
       refine zh<|zd<|zr (fun j=>false) (by kernel_rfl) Z (zj (.rest _))<|ad 0 Z (yx jv jj Z Z)<|ad 1 Z (bM j5 Z j7 Z Z)<|ad 2 Z (fa je Z)<|ad 3 Z (cD Z)<|ad 4 Z (bv m wy wz Z Z Z (by rw[qt hm2,hv])) ?_
       refine ad 5 Z (cR j6 Z)<|ad 7 Z (cD Z)<|aQ 6 Z<|zg (fP f v hvv) Z<|z6<|ad 8 Z (Gv.neqI Z Z)<|bJ<|zy Z (fun cq=>?_) (fun cq=>?_)
       ·have hq:¬bf f v=em (c.toNat:Int):=by simpa using cq
        refine ai<|ab Z<|z6<|zi<|zn (x:=.bool _) Z ?_
        rw[hbadm (by rw[D3 ew hmw hmt,hct];exact hq)]
       ·have hq:bf f v=em (c.toNat:Int):=by simpa using cq
        refine zh<|aT<|aC Z Z<|aa Z<|z6 ?_
        exact ⟨m+1,pe,aK,aH,⟨hm2,iH hm2 hmw hmall (by rw[hv,D3 ew hmw hmt,hct];exact hq)⟩,by omega⟩
     ·have hmn:m=z.args.length:=by simp at cm;omega
      have hall2:z.args.map (bf f)=gM f z:=by rw[hmn,qy,hwl,qy] at hmall;exact hmall
      have hiw:=rn hI
      rw[w8 hall2,Bool.true_and] at hiw
      refine y5<|zd<|zr (fun j=>false) (by kernel_rfl) Z (zj (.r (.rest _)))<|ad 0 Z (zf Y3 Z Y9 (by decide) Z Z)<|ad 1 Z (zo (c:=.str _) Yg Z ⟨_,.head⟩ Z)<|ad 2 Z (Gv.neqT Z Z)<|ad 3 Z (nT Z)<|ql (s:=89) Z (fun c1=>?_) (fun c1=>?_)
      ·have d1:¬(bW z.op).2.2=⟨#[]⟩:=by simpa using c1
       have dm:cS z.op=true:=by rw[lC,w9 d1];rfl
       obtain ⟨c,hc,hct⟩:=yF d1
       refine cO 4 Z Z Z c1 (zf Y3 Z Y9 (by decide) Z Z)<|cO 5 Z Z Z c1 (zo (c:=.str _) Yg Z ⟨_,.head⟩ Z)<|cO 6 Z Z Z c1 (Gv.neqT Z Z)<|ad 7 Z (uo Z c1 Z)<|ad 8 Z (nT Z)<|ql (s:=94) Z (fun c2=>?_) (fun c2=>?_)
       ·have ew:¬z.op=1:=fun e=>by have:=(oW hI.op).2 e;simp[this] at c2
        refine cO 9 Z Z Z c2 (yx jv jj Z Z)<|cO 10 Z Z Z c2 (bM j5 Z wz Z Z)<|cO 11 Z Z Z c2 (cR j6 Z)<|cO 13 Z Z Z c2 (zf Y3 Z Y9 (by decide) Z Z)<|cO 14 Z Z Z c2 (zo (c:=.str _) Yg Z ⟨_,.head⟩ Z)<|cO 15 Z Z Z c2 (Gv.indexT (j:=0) Zs Z Z Z hc)<|aQ 12 Z<|z8 Z Z c2<|zg (fP f z.dst (hdst dm)) Z<|z6<|aQ 16 Z<|z8 Z Z c2<|zg (rl (c.toNat:Int)) Z<|z6<|cO 17 Z Z Z c2 (Gv.neqI Z Z)<|ad 18 Z (uo Z c2 Z)<|bJ<|zy Z (fun cq=>?_) (fun cq=>?_)
        ·have hq:¬bf f z.dst=em (c.toNat:Int):=by simpa using cq
         refine ai<|ab Z<|z6<|zi<|zn (x:=.bool _) Z ?_
         rw[hib (by rw[hiw,dm,w9 ew,hct,w9 hq];rfl)]
        ·have hq:bf f z.dst=em (c.toNat:Int):=by simpa using cq
         refine zh<|aT<|aC Z Z<|aa Z<|z6 ?_
         exact ⟨k+1,lu,aK,⟨_,(.drop (.refl _)),rfl⟩,⟨hk2,bI hk2 hkall (by rw[hz,hiw,hct,w8 hq];simp)⟩,by omega⟩
       ·have ew:z.op=1:=(oW hI.op).1 (by simpa using c2)
        refine b5 9 Z Z Z c2<|b5 10 Z Z Z c2<|b5 11 Z Z Z c2<|b5 12 Z Z Z c2<|b5 13 Z Z Z c2<|b5 14 Z Z Z c2<|b5 15 Z Z Z c2<|b5 16 Z Z Z c2<|b5 17 Z Z Z c2<|ad 18 Z (si Z c2 Z)<|bJ<|yg Z Z<|zh<|aT<|aC Z Z<|aa Z<|z6 ?_
        exact ⟨k+1,lu,aK,⟨_,(.drop (.refl _)),rfl⟩,⟨hk2,bI hk2 hkall (by rw[hz,hiw,w8 ew];simp)⟩,by omega⟩
      ·have d1:(bW z.op).2.2=⟨#[]⟩:=by simpa using c1
       have dm:cS z.op=false:=by rw[lC,w8 d1];rfl
       refine b5 4 Z Z Z c1<|b5 5 Z Z Z c1<|b5 6 Z Z Z c1<|ad 7 Z (si Z c1 Z)<|ad 8 Z (nT Z)<|b5 9 Z Z Z Z<|b5 10 Z Z Z Z<|b5 11 Z Z Z Z<|b5 12 Z Z Z Z<|b5 13 Z Z Z Z<|b5 14 Z Z Z Z<|b5 15 Z Z Z Z<|b5 16 Z Z Z Z<|b5 17 Z Z Z Z<|ad 18 Z (si Z Z Z)<|bJ<|yg Z Z<|zh<|aT<|aC Z Z<|aa Z<|z6 ?_
       exact ⟨k+1,lu,aK,⟨_,(.drop (.refl _)),rfl⟩,⟨hk2,bI hk2 hkall (by rw[hz,hiw,dm];rfl)⟩,by omega⟩
   ·have hkn:k=b.insts.length:=by simp at ck;omega
    rw[hkn,qy] at hkall
    refine y5<|ai<|au ji Z Zo Z Z<|ae isAgg49 Zo Z Z<|y6 (cs:=[.int .i64 0,.int .i64 0,.int .i64 0,.int .i64 0]) zeroValue49 Z Z<|fun i14=>y1 Zo Z Z Z Z Z Z .head Z<|ze (yc (t:=14) Z .head)<|z6<|zd<|ye (γ:=Bool) [1,16,17,18] (fun u=>[(152,.bool u)]) (fun u=>[]) (fun u=>u=!d6 f b.term) ?_ (fun _ _ h=>h) ?_
    ·have hk3:=B5 hTm
     refine aT<|au jf Z Y7 Z Z<|aA Yh Z<|ao Z Z<|aj Z<|zq (s:=111) Z (fun c1=>?_) (fun c1=>?_)
     ·refine z8 Z Z c1<|ae jv jj Z Z<|z8 Z Z c1<|au jf Z wz Z Z<|z8 Z Z c1<|aA j6 Z<|z8 Z Z c1<|zg (fP f b.term.var (ia hTm (by simp_all))) Z<|z8 Z Z c1<|aO Z Z<|aw Z c1 Z<|aj Z<|zq (s:=118) Z (fun c2=>?_) (fun c2=>?_)
      ·refine z7 Z Z c2<|z7 Z Z c2<|z7 Z Z c2<|z7 Z Z c2<|zm Z Z<|zm Z Z<|zm Z Z<|zm Z Z<|zm Z Z<|zm Z Z<|zm Z Z<|zm Z Z<|zm Z Z<|zm Z Z<|zm Z Z<|zm Z Z<|zm Z Z<|zm Z Z<|zm Z Z<|zm Z Z<|zm Z Z<|z7 Z Z c2<|aw Z c2 Z<|aj Z<|z7 Z Z Z<|z7 Z Z Z<|z7 Z Z Z<|z7 Z Z Z<|zm Z Z<|zm Z Z<|zm Z Z<|zm Z Z<|z7 Z Z Z<|aw Z Z Z<|z6 ?_
       exact ⟨_,gn,aK,aH,by simp_all[d6]<;>omega⟩
      ·refine z8 Z Z c2<|au jf Z Y7 Z Z<|z8 Z Z c2<|aA Yh Z<|z8 Z Z c2<|ao Z Z<|z8 Z Z c2<|aj Z<|zq (s:=122) Z (fun c3=>?_) (fun c3=>?_)
       ·refine z8 Z Z c3<|ae jv jj Z Z<|z8 Z Z c3<|au jf Z wz Z Z<|z8 Z Z c3<|aA j6 Z<|z8 Z Z c3<|zg (fP f b.term.var (ia hTm (by simp_all))) Z<|z8 Z Z c3<|aO Z Z<|z8 Z Z c3<|aj Z<|zq (s:=128) Z (fun c4=>?_) (fun c4=>?_)
        ·refine z7 Z Z c4<|z7 Z Z c4<|z7 Z Z c4<|z7 Z Z c4<|z8 Z Z c3<|aw Z c4 Z<|z8 Z Z c3<|aj Z<|z7 Z Z Z<|z7 Z Z Z<|z7 Z Z Z<|z7 Z Z Z<|z8 Z Z c3<|aw Z Z Z<|z8 Z Z c2<|aw Z c3 Z<|ay Z c2 Z<|aj Z<|z7 Z Z Z<|z7 Z Z Z<|z7 Z Z Z<|z7 Z Z Z<|zm Z Z<|zm Z Z<|zm Z Z<|zm Z Z<|z7 Z Z Z<|aw Z Z Z<|z6 ?_
         exact ⟨_,gn,aK,aH,by simp_all[d6]<;>omega⟩
        ·refine z8 Z Z c4<|au jf Z Zd Z Z<|z8 Z Z c4<|za (q3 (j:=0) Z1 wz Z Z Z (by decide) Z)<|z8 Z Z c4<|aA j6 Z<|z8 Z Z c4<|ao Z Z<|z8 Z Z c3<|ay Z c4 Z<|z8 Z Z c3<|aj Z<|zq (s:=134) Z (fun c5=>?_) (fun c5=>?_)
         ·refine z7 Z Z c5<|z7 Z Z c5<|z7 Z Z c5<|z7 Z Z c5<|z8 Z Z c3<|aw Z c5 Z<|z8 Z Z c2<|aw Z c3 Z<|ay Z c2 Z<|aj Z<|z7 Z Z Z<|z7 Z Z Z<|z7 Z Z Z<|z7 Z Z Z<|zm Z Z<|zm Z Z<|zm Z Z<|zm Z Z<|z7 Z Z Z<|aw Z Z Z<|z6 ?_
          exact ⟨_,gn,aK,aH,by simp_all[d6]<;>omega⟩
         ·refine z8 Z Z c5<|au jf Z Zd Z Z<|z8 Z Z c5<|za (q3 (j:=1) Z1 wz Z Z Z (by decide) Z)<|z8 Z Z c5<|aA j6 Z<|z8 Z Z c5<|ao Z Z<|z8 Z Z c3<|ay Z c5 Z<|z8 Z Z c2<|aw Z c3 Z<|ay Z c2 Z<|aj Z<|zq (s:=142) Z (fun c6=>?_) (fun c6=>?_)
          ·refine z7 Z Z c6<|z7 Z Z c6<|z7 Z Z c6<|z7 Z Z c6<|zm Z Z<|zm Z Z<|zm Z Z<|zm Z Z<|z7 Z Z c6<|aw Z c6 Z<|z6 ?_
           exact ⟨_,gn,aK,aH,by simp_all[d6]<;>omega⟩
          ·refine z8 Z Z c6<|au jf Z Y7 Z Z<|z8 Z Z c6<|aA Yh Z<|z8 Z Z c6<|ao Z Z<|z8 Z Z c6<|aj Z<|zq (s:=146) Z (fun c7=>?_) (fun c7=>?_)
           ·refine z8 Z Z c7<|au jf Z Zd Z Z<|z8 Z Z c7<|za (q3 (j:=0) Z1 wz Z Z Z (by decide) Z)<|z8 Z Z c7<|aA j6 Z<|z8 Z Z c7<|ao Z Z<|z8 Z Z c6<|aw Z c7 Z<|ay Z c6 Z<|z6 ?_
            exact ⟨_,gn,aK,aH,by simp_all[d6]<;>omega⟩
           ·refine z7 Z Z c7<|z7 Z Z c7<|z7 Z Z c7<|z7 Z Z c7<|z8 Z Z c6<|ay Z c7 Z<|ay Z c6 Z<|z6 ?_
            exact ⟨_,gn,aK,aH,by simp_all[d6]<;>omega⟩
       ·refine z7 Z Z c3<|z7 Z Z c3<|z7 Z Z c3<|z7 Z Z c3<|z7 Z Z c3<|z7 Z Z c3<|zm Z Z<|zm Z Z<|zm Z Z<|zm Z Z<|z7 Z Z c3<|z7 Z Z c3<|zm Z Z<|zm Z Z<|zm Z Z<|zm Z Z<|z7 Z Z c3<|z8 Z Z c2<|ay Z c3 Z<|ay Z c2 Z<|aj Z<|z8 Z Z Z<|au jf Z Y7 Z Z<|z8 Z Z Z<|aA Yh Z<|z8 Z Z Z<|ao Z Z<|z8 Z Z Z<|aj Z<|zq (s:=146) Z (fun c8=>?_) (fun c8=>?_)
        ·refine z8 Z Z c8<|au jf Z Zd Z Z<|z8 Z Z c8<|za (q3 (j:=0) Z1 wz Z Z Z (by decide) Z)<|z8 Z Z c8<|aA j6 Z<|z8 Z Z c8<|ao Z Z<|z8 Z Z Z<|aw Z c8 Z<|ay Z Z Z<|z6 ?_
         exact ⟨_,gn,aK,aH,by simp_all[d6]<;>omega⟩
        ·refine z7 Z Z c8<|z7 Z Z c8<|z7 Z Z c8<|z7 Z Z c8<|z8 Z Z Z<|ay Z c8 Z<|ay Z Z Z<|z6 ?_
         exact ⟨_,gn,aK,aH,by simp_all[d6]<;>omega⟩
     ·refine z7 Z Z c1<|z7 Z Z c1<|z7 Z Z c1<|z7 Z Z c1<|z7 Z Z c1<|ay Z c1 Z<|aj Z<|z8 Z Z Z<|au jf Z Y7 Z Z<|z8 Z Z Z<|aA Yh Z<|z8 Z Z Z<|ao Z Z<|z8 Z Z Z<|aj Z<|zq (s:=122) Z (fun c9=>?_) (fun c9=>?_)
      ·refine z8 Z Z c9<|ae jv jj Z Z<|z8 Z Z c9<|au jf Z wz Z Z<|z8 Z Z c9<|aA j6 Z<|z8 Z Z c9<|zg (fP f b.term.var (ia hTm (by simp_all))) Z<|z8 Z Z c9<|aO Z Z<|z8 Z Z c9<|aj Z<|zq (s:=128) Z (fun c10=>?_) (fun c10=>?_)
       ·refine z7 Z Z c10<|z7 Z Z c10<|z7 Z Z c10<|z7 Z Z c10<|z8 Z Z c9<|aw Z c10 Z<|z8 Z Z c9<|aj Z<|z7 Z Z Z<|z7 Z Z Z<|z7 Z Z Z<|z7 Z Z Z<|z8 Z Z c9<|aw Z Z Z<|z8 Z Z Z<|aw Z c9 Z<|ay Z Z Z<|aj Z<|z7 Z Z Z<|z7 Z Z Z<|z7 Z Z Z<|z7 Z Z Z<|zm Z Z<|zm Z Z<|zm Z Z<|zm Z Z<|z7 Z Z Z<|aw Z Z Z<|z6 ?_
        exact ⟨_,gn,aK,aH,by simp_all[d6]<;>omega⟩
       ·refine z8 Z Z c10<|au jf Z Zd Z Z<|z8 Z Z c10<|za (q3 (j:=0) Z1 wz Z Z Z (by decide) Z)<|z8 Z Z c10<|aA j6 Z<|z8 Z Z c10<|ao Z Z<|z8 Z Z c9<|ay Z c10 Z<|z8 Z Z c9<|aj Z<|zq (s:=134) Z (fun c11=>?_) (fun c11=>?_)
        ·refine z7 Z Z c11<|z7 Z Z c11<|z7 Z Z c11<|z7 Z Z c11<|z8 Z Z c9<|aw Z c11 Z<|z8 Z Z Z<|aw Z c9 Z<|ay Z Z Z<|aj Z<|z7 Z Z Z<|z7 Z Z Z<|z7 Z Z Z<|z7 Z Z Z<|zm Z Z<|zm Z Z<|zm Z Z<|zm Z Z<|z7 Z Z Z<|aw Z Z Z<|z6 ?_
         exact ⟨_,gn,aK,aH,by simp_all[d6]<;>omega⟩
        ·refine z8 Z Z c11<|au jf Z Zd Z Z<|z8 Z Z c11<|za (q3 (j:=1) Z1 wz Z Z Z (by decide) Z)<|z8 Z Z c11<|aA j6 Z<|z8 Z Z c11<|ao Z Z<|z8 Z Z c9<|ay Z c11 Z<|z8 Z Z Z<|aw Z c9 Z<|ay Z Z Z<|aj Z<|zq (s:=142) Z (fun c12=>?_) (fun c12=>?_)
         ·refine z7 Z Z c12<|z7 Z Z c12<|z7 Z Z c12<|z7 Z Z c12<|zm Z Z<|zm Z Z<|zm Z Z<|zm Z Z<|z7 Z Z c12<|aw Z c12 Z<|z6 ?_
          exact ⟨_,gn,aK,aH,by simp_all[d6]<;>omega⟩
         ·refine z8 Z Z c12<|au jf Z Y7 Z Z<|z8 Z Z c12<|aA Yh Z<|z8 Z Z c12<|ao Z Z<|z8 Z Z c12<|aj Z<|zq (s:=146) Z (fun c13=>?_) (fun c13=>?_)
          ·refine z8 Z Z c13<|au jf Z Zd Z Z<|z8 Z Z c13<|za (q3 (j:=0) Z1 wz Z Z Z (by decide) Z)<|z8 Z Z c13<|aA j6 Z<|z8 Z Z c13<|ao Z Z<|z8 Z Z c12<|aw Z c13 Z<|ay Z c12 Z<|z6 ?_
           exact ⟨_,gn,aK,aH,by simp_all[d6]<;>omega⟩
          ·refine z7 Z Z c13<|z7 Z Z c13<|z7 Z Z c13<|z7 Z Z c13<|z8 Z Z c12<|ay Z c13 Z<|ay Z c12 Z<|z6 ?_
           exact ⟨_,gn,aK,aH,by simp_all[d6]<;>omega⟩
      ·refine z7 Z Z c9<|z7 Z Z c9<|z7 Z Z c9<|z7 Z Z c9<|z7 Z Z c9<|z7 Z Z c9<|zm Z Z<|zm Z Z<|zm Z Z<|zm Z Z<|z7 Z Z c9<|z7 Z Z c9<|zm Z Z<|zm Z Z<|zm Z Z<|zm Z Z<|z7 Z Z c9<|z8 Z Z Z<|ay Z c9 Z<|ay Z Z Z<|aj Z<|z8 Z Z Z<|au jf Z Y7 Z Z<|z8 Z Z Z<|aA Yh Z<|z8 Z Z Z<|ao Z Z<|z8 Z Z Z<|aj Z<|zq (s:=146) Z (fun c14=>?_) (fun c14=>?_)
       ·refine z8 Z Z c14<|au jf Z Zd Z Z<|z8 Z Z c14<|za (q3 (j:=0) Z1 wz Z Z Z (by decide) Z)<|z8 Z Z c14<|aA j6 Z<|z8 Z Z c14<|ao Z Z<|z8 Z Z Z<|aw Z c14 Z<|ay Z Z Z<|z6 ?_
        exact ⟨_,gn,aK,aH,by simp_all[d6]<;>omega⟩
       ·refine z7 Z Z c14<|z7 Z Z c14<|z7 Z Z c14<|z7 Z Z c14<|z8 Z Z Z<|ay Z c14 Z<|ay Z Z Z<|z6 ?_
        exact ⟨_,gn,aK,aH,by simp_all[d6]<;>omega⟩
    ·rintro u hu
     subst hu
     refine zy Z (fun ct=>?_) (fun ct=>?_)
     ·have dt:d6 f b.term=false:=by simpa using ct
      refine ai<|ab Z<|z6<|zi<|zn (x:=.bool _) Z ?_
      rw[hbad (by unfold iK;rw[hjall,hkall,dt];rfl)]
     ·have dt:d6 f b.term=true:=by simpa using ct
      refine zh<|aT<|aC Z Z<|aa Z<|z6 ?_
      exact ⟨i+1,de,aK,aH,⟨hi2,bI hi2 hall (by rw[hbi];unfold iK;rw[hjall,hkall,dt];rfl)⟩,by omega⟩
 ·have hin:i=f.blocks.length:=by simp at ci;omega
  rw[hin,qy] at hall
  refine y5<|ai<|ab Z<|z6<|zi<|zn (x:=.bool _) Z ?_
  rw[hall]
end Go.Proofs.YtdilpodccjlkgaaGreatDoor
namespace Go.Proofs.YtdilpodccjlkgaaGreatDoor
open Go.Proofs.Tryz
open Go.Proofs Go.Lib Go.Shelf Go.RowKit
set_option maxRecDepth 20000
variable {E:World}
theorem m4 {α:Type} (g:α→Nat):∀(l:List α) (k:Nat),((l.take k).map g).sum≤(l.map g).sum
 |[],k=>by simp
 |x::l,0=>by simp
 |x::l,k+1=>by
  have:=m4 g l k
  simp only[List.take_succ_cons,List.map_cons,List.sum_cons];omega
theorem FG (l:List dF) (k:Nat):wP (l.take k)≤wP l:=m4 _ l k
theorem FH (l:List aF) (k:Nat):wX (l.take k)≤wX l:=m4 _ l k
theorem nN {f:ac} (h:nu f) {k:Nat} (hk:k<f.blocks.length):wV f.vars+xn (f.blocks.take k)+wB f.blocks[k]≤4000:=by
 have h1:=h.2.2.2.2.2 (fun e=>by rw[e] at hk;exact absurd hk (Nat.not_lt_zero _))
 have h2:xn (f.blocks.take (k+1))≤xn f.blocks:=m4 _ f.blocks (k+1)
 rw[va hk] at h2
 omega
set_option maxHeartbeats 8000000 in
theorem wi (f:ac) (hf:sF f):aZ prog E 8 [.agg (bD f)] [] (fun x _=>∃b:Bool,x=.bool b∧(b=true↔nu f)):=by
 obtain ⟨hf1,hf2,hf3,hf4⟩:=hf
 have hl1:=hf1.lt
 have hl3:=hf3.lt
 refine zp func8 Z (by decide) Z<|ai<|y9 (cs:=_) Z Z Z<|ab Z<|z6<|zd<|zd<|ye (γ:=Unit) [1] (fun u=>[(27,.bool (Bc f))]) (fun u=>[]) (fun u=>True) ?_ (fun _ _ h=>h) ?_
 ·refine aT<|au jg Z Yc Z Z<|aI Yn Z<|ap Z9 Z<|aY Z Z<|aj Z<|zq (s:=16) Z (fun c1=>?_) (fun c1=>?_)
  ·refine z7 Z Z c1<|z7 Z Z c1<|z7 Z Z c1<|z7 Z Z c1<|aw Z c1 Z<|aj Z<|z7 Z Z Z<|z7 Z Z Z<|z7 Z Z Z<|z7 Z Z Z<|aw Z Z Z<|z6 ?_
   exact ⟨(),aK,⟨jb (by simp_all[Bc]<;>grind),trivial⟩,aH,trivial⟩
  ·refine z8 Z Z c1<|au jg Z Z8 Z Z<|z8 Z Z c1<|aI Zh Z<|z8 Z Z c1<|ap ju Z<|z8 Z Z c1<|aY Z Z<|ay Z c1 Z<|aj Z<|zq (s:=22) Z (fun c2=>?_) (fun c2=>?_)
   ·refine z7 Z Z c2<|z7 Z Z c2<|z7 Z Z c2<|z7 Z Z c2<|aw Z c2 Z<|z6 ?_
    exact ⟨(),aK,⟨jb (by simp_all[Bc]<;>grind),trivial⟩,aH,trivial⟩
   ·refine z8 Z Z c2<|au jg Z j7 Z Z<|z8 Z Z c2<|aI je Z<|z8 Z Z c2<|ap wy Z<|z8 Z Z c2<|aY Z Z<|ay Z c2 Z<|z6 ?_
    exact ⟨(),aK,⟨jb (by simp_all[Bc]<;>grind),trivial⟩,aH,trivial⟩
 ·rintro _ _
  refine zy Z (fun c1=>?_) (fun c1=>?_)
  ·refine ai<|ab Z<|z6<|zi<|zn (x:=.bool _) Z ?_
   exact ⟨_,rfl,fun h=>(by cases h),fun hl=>absurd hl (fun hl=>by have h1:=hl.1;have h2:=hl.2.1;have h3:=hl.2.2.1;unfold Bc at c1;simp at c1;omega)⟩
  ·have hsz:f.vars.length≤100∧f.blocks.length≤40∧f.params.length≤20:=by unfold Bc at c1;simp at c1;omega
   refine zh<|ai<|ak Z<|z6<|zd<|ai<|au jg Z Yc Z Z<|aI Yn Z<|ap Z9 Z<|aa Z<|z6<|zk<|y7 (γ:=Nat) [1,29,30] (fun k=>[(31,.int .i64 k),(3,.int .i64 (wV (f.vars.take k)))]) (fun k=>[]) (fun k=>k≤f.vars.length∧wV (f.vars.take k)≤400*k∧∀v∈f.vars.take k,v.name.size≤400) (fun k=>f.vars.length - k) 0 eh aH (⟨qw _,Nat.le_refl _,by simp⟩) ?_
   rintro k ⟨hk,hw,hv⟩
   refine ai<|ax Z Z<|z6<|zd<|zt Z (fun ck=>?_) (fun ck=>?_)
   ·have hk1:k<f.vars.length:=by omega
    have hs:=ET hk1
    refine zh<|zd<|zk<|ai<|za (qc Z9 Yd Z Z Z (qt (by omega)))<|ae isAgg61 Yd Z Z<|y6 (cs:=[.str ⟨#[]⟩,.int .i64 0]) zeroValue61 Z Z<|fun i5=>y1 Yd Z Z Z Z Z Z .head Z<|z6<|zd<|ai<|za (zf Zm Z Y9 (by decide) Z Z)<|za (zo (c:=.str _) Yg Z ⟨_,.head⟩ Z)<|za (Gv.lenT Zs Z)<|aY Z Z<|z6<|zt Z (fun cn=>?_) (fun cn=>?_)
    ·refine ai<|ab Z<|z6<|zi<|zn (x:=.bool _) Z ?_
     exact ⟨_,rfl,fun h=>(by cases h),fun hl=>absurd hl (fun hl=>by have h1:=hl.2.2.2.1 _ (qx hk1);omega)⟩
    ·refine zh<|aT<|aa Z<|za (zf Zm Z Y9 (by decide) Z Z)<|za (zo (c:=.str _) Yg Z ⟨_,.head⟩ Z)<|za (Gv.lenT Zs Z)<|aC Z Z<|ak Z<|z6<|aT<|aC Z Z<|aa Z<|z6 ?_
     exact ⟨k+1,de,⟨rfl,congrArg (AV.int .i64) (by rw[hs];omega),trivial⟩,⟨_,(.drop (.refl _)),rfl⟩,⟨hk1,by omega,eR hk1 hv (by omega)⟩,by omega⟩
   ·obtain rfl:k=f.vars.length:=by omega
    rw[qy] at hw hv
    rw[qy]
    refine y5<|zd<|ai<|au jg Z Z8 Z Z<|aI Zh Z<|ap ju Z<|aa Z<|z6<|zk<|y7 (γ:=Nat) [46,47] (fun k=>[(48,.int .i64 k),(3,.int .i64 (wV f.vars+xn (f.blocks.take k):Nat))]) (fun k=>[]) (fun k=>k≤f.blocks.length∧(0<k→wV f.vars+xn (f.blocks.take k)≤4000)∧xn (f.blocks.take k)≤4000∧∀b∈f.blocks.take k,zN b) (fun k=>f.blocks.length - k) 0 eh aH (⟨qw _,by omega,by simp[xn],by simp⟩) ?_
    rintro k ⟨hk,hw2,hw3,hb⟩
    refine ai<|ax Z Z<|z6<|zd<|zt Z (fun ck=>?_) (fun ck=>?_)
    ·have hk1:k<f.blocks.length:=by omega
     obtain ⟨hb1,hb2,hb3,hb4⟩:=hf4 _ (qx hk1)
     have hs:=va hk1
     refine zh<|zd<|zk<|ai<|za (qc ju jy Z Z Z (qt (by omega)))<|ae Yo jy Z Z<|y6 (cs:=[.str ⟨#[]⟩,.raw (.slice none 0 0),.raw (.slice none 0 0),.int .i64 0,.int .i64 0,.int .i64 0,.int .i64 0]) Zl Z Z<|fun i7=>y1 jy Z Z Z Z Z Z .head Z<|z6<|zd<|zd<|ye (γ:=Unit) [3,7,46,47,48] (fun u=>[(67,.bool (Bd f.blocks[k]))]) (fun u=>[(i7,.cells 51 (dk f.blocks[k]))]) (fun u=>True) ?_ (fun _ _ h=>h) ?_
     ·refine aT<|za (zf ji Z Y9 (by decide) Z Z)<|za (zo (c:=.str _) Yg Z ⟨_,.head⟩ Z)<|za (Gv.lenT Zs Z)<|aY Z Z<|aj Z<|zq (s:=56) Z (fun c3=>?_) (fun c3=>?_)
      ·refine z7 Z Z c3<|z7 Z Z c3<|z7 Z Z c3<|z7 Z Z c3<|aw Z c3 Z<|aj Z<|z7 Z Z Z<|z7 Z Z Z<|z7 Z Z Z<|z7 Z Z Z<|aw Z Z Z<|z6 ?_
       exact ⟨(),sj,⟨jb (by simp_all[Bd]<;>grind),trivial⟩,aH,trivial⟩
      ·refine z8 Z Z c3<|za (zf ji Z Yl (by decide) Z Z)<|z8 Z Z c3<|za (zo (c:=.fro _ _) Yv Z ⟨_,.head⟩ Z)<|z8 Z Z c3<|ap Z4 Z<|z8 Z Z c3<|aY Z Z<|ay Z c3 Z<|aj Z<|zq (s:=62) Z (fun c4=>?_) (fun c4=>?_)
       ·refine z7 Z Z c4<|z7 Z Z c4<|z7 Z Z c4<|z7 Z Z c4<|aw Z c4 Z<|z6 ?_
        exact ⟨(),sj,⟨jb (by simp_all[Bd]<;>grind),trivial⟩,aH,trivial⟩
       ·refine z8 Z Z c4<|za (zf ji Z Zq (by decide) Z Z)<|z8 Z Z c4<|za (zo (c:=.fro _ _) Y4 Z ⟨_,.head⟩ Z)<|z8 Z Z c4<|ap jz Z<|z8 Z Z c4<|aY Z Z<|ay Z c4 Z<|z6 ?_
        exact ⟨(),sj,⟨jb (by simp_all[Bd]<;>grind),trivial⟩,aH,trivial⟩
     ·rintro _ _
      refine zy Z (fun c2=>?_) (fun c2=>?_)
      ·refine ai<|ab Z<|z6<|zi<|zn (x:=.bool _) Z ?_
       exact ⟨_,rfl,fun h=>(by cases h),fun hl=>absurd hl (fun hl=>by obtain ⟨h1,h2,h3,_⟩:=hl.2.2.2.2.1 _ (qx hk1);unfold Bd at c2;simp at c2;omega)⟩
      ·have hsb:f.blocks[k].name.size≤400∧f.blocks[k].phis.length≤400∧f.blocks[k].insts.length≤400:=by unfold Bd at c2;simp at c2;omega
       refine zh<|ai<|aa Z<|za (zf ji Z Y9 (by decide) Z Z)<|za (zo (c:=.str _) Yg Z ⟨_,.head⟩ Z)<|za (Gv.lenT Zs Z)<|za (zf ji Z Yl (by decide) Z Z)<|za (zo (c:=.fro _ _) Yv Z ⟨_,.head⟩ Z)<|ap Z4 Z<|za (zf ji Z Zq (by decide) Z Z)<|za (zo (c:=.fro _ _) Y4 Z ⟨_,.head⟩ Z)<|ap jz Z<|aC Z Z<|za (Gv.mul Z Z (by unfold kJ;omega))<|aC Z Z<|aC Z Z<|ak Z<|z6<|zd<|ai<|za (zf ji Z Yl (by decide) Z Z)<|za (zo (c:=.fro _ _) Yv Z ⟨_,.head⟩ Z)<|ap Z4 Z<|aa Z<|z6<|zk<|y7 (γ:=Nat) [7,46,47,48,83,84] (fun m=>[(85,.int .i64 m),(3,.int .i64 (wV f.vars+xn (f.blocks.take k)+(f.blocks[k].name.size+10*(f.blocks[k].phis.length+f.blocks[k].insts.length))+wP (f.blocks[k].phis.take m):Nat))]) (fun m=>[(i7,.cells 51 (dk f.blocks[k]))]) (fun m=>m≤f.blocks[k].phis.length∧wP (f.blocks[k].phis.take m)≤800*m∧∀p∈f.blocks[k].phis.take m,p.args.length≤400∧p.from_.length≤400) (fun m=>f.blocks[k].phis.length - m) 0 ⟨Z,(congrArg (AV.int .i64) (by simp[wP]<;>omega)),trivial⟩ aH (⟨qw _,by simp[wP],by simp⟩) ?_
       rintro m ⟨hm,hwp,hp⟩
       refine ai<|ax Z Z<|z6<|zd<|zt Z (fun cm=>?_) (fun cm=>?_)
       ·have hm1:m<f.blocks[k].phis.length:=by omega
        obtain ⟨hq1,hq2⟩:=hb3 _ (qx hm1)
        have hl6:=hq1.lt
        have hl7:=hq2.lt
        have hs2:=EU hm1
        refine zh<|zd<|zk<|ai<|za (qc Z4 Zb Z Z Z (qt (by omega)))<|ae X1 Zb Z Z<|y6 (cs:=[.int .i64 0,.raw (.slice none 0 0),.raw (.slice none 0 0)]) Yf Z Z<|fun i9=>y1 Zb Z Z Z Z Z Z .head Z<|z6<|zd<|zd<|ye (γ:=Unit) [3,7,9,46,47,48,83,84,85] (fun u=>[(102,.bool (decide ((4000:Int)<(wV f.vars+xn (f.blocks.take k)+(f.blocks[k].name.size+10*(f.blocks[k].phis.length+f.blocks[k].insts.length))+wP (f.blocks[k].phis.take m):Nat))||(decide ((400:Int)<f.blocks[k].phis[m].args.length)||decide ((400:Int)<f.blocks[k].phis[m].from_.length))))]) (fun u=>[(i9,.cells 63 (fg f.blocks[k].phis[m])),(i7,.cells 51 (dk f.blocks[k]))]) (fun u=>True) ?_ (fun _ _ h=>h) ?_
        ·refine aT<|aa Z<|aY Z Z<|aj Z<|zq (s:=91) Z (fun c5=>?_) (fun c5=>?_)
         ·refine z7 Z Z c5<|z7 Z Z c5<|z7 Z Z c5<|z7 Z Z c5<|aw Z c5 Z<|aj Z<|z7 Z Z Z<|z7 Z Z Z<|z7 Z Z Z<|z7 Z Z Z<|aw Z Z Z<|z6 ?_
          exact ⟨(),tg,⟨jb (by simp_all<;>grind),trivial⟩,aH,trivial⟩
         ·refine z8 Z Z c5<|za (zf Z0 Z j7 (by decide) Z Z)<|z8 Z Z c5<|za (zo (c:=.fro _ _) je Z ⟨_,.head⟩ Z)<|z8 Z Z c5<|ap wy Z<|z8 Z Z c5<|aY Z Z<|ay Z c5 Z<|aj Z<|zq (s:=97) Z (fun c6=>?_) (fun c6=>?_)
          ·refine z7 Z Z c6<|z7 Z Z c6<|z7 Z Z c6<|z7 Z Z c6<|aw Z c6 Z<|z6 ?_
           exact ⟨(),tg,⟨jb (by simp_all<;>grind),trivial⟩,aH,trivial⟩
          ·refine z8 Z Z c6<|za (zf Z0 Z j7 (by decide) Z Z)<|z8 Z Z c6<|za (zo (c:=.fro _ _) je Z ⟨_,.head⟩ Z)<|z8 Z Z c6<|ap wy Z<|z8 Z Z c6<|aY Z Z<|ay Z c6 Z<|z6 ?_
           exact ⟨(),tg,⟨jb (by simp_all<;>grind),trivial⟩,aH,trivial⟩
        ·rintro _ _
         refine zy Z (fun cp=>?_) (fun cp=>?_)
         ·refine ai<|ab Z<|z6<|zi<|zn (x:=.bool _) Z ?_
          exact ⟨_,rfl,fun h=>(by cases h),fun hl=>absurd hl (fun hl=>by obtain ⟨_,_,_,h4,_⟩:=hl.2.2.2.2.1 _ (qx hk1);have h5:=h4 _ (qx hm1);have h9:=nN hl hk1;have hwb:wB f.blocks[k]=f.blocks[k].name.size+10*(f.blocks[k].phis.length+f.blocks[k].insts.length)+wP f.blocks[k].phis+wX f.blocks[k].insts:=rfl;have h10:=FG f.blocks[k].phis m;simp only[Bool.or_eq_true,wg] at cp;omega)⟩
         ·rcases Bool.or_eq_false_iff.1 cp with ⟨a1,a2⟩
          rcases Bool.or_eq_false_iff.1 a2 with ⟨a3,a4⟩
          have a3:=we a3
          have a4:=we a4
          refine zh<|aT<|aa Z<|za (zf Z0 Z j7 (by decide) Z Z)<|za (zo (c:=.fro _ _) je Z ⟨_,.head⟩ Z)<|ap wy Z<|za (zf Z0 Z j7 (by decide) Z Z)<|za (zo (c:=.fro _ _) je Z ⟨_,.head⟩ Z)<|ap wy Z<|aC Z Z<|aC Z Z<|ak Z<|z6<|aT<|aC Z Z<|aa Z<|z6 ?_
          exact ⟨m+1,yV,⟨rfl,congrArg (AV.int .i64) (by rw[hs2];omega),trivial⟩,⟨_,(.drop (.refl _)),rfl⟩,⟨hm1,by omega,eR hm1 hp ⟨by omega,by omega⟩⟩,by omega⟩
       ·obtain rfl:m=f.blocks[k].phis.length:=by omega
        rw[qy] at hwp hp
        rw[qy]
        refine y5<|zd<|ai<|za (zf ji Z Zq (by decide) Z Z)<|za (zo (c:=.fro _ _) Y4 Z ⟨_,.head⟩ Z)<|ap jz Z<|aa Z<|z6<|zk<|y7 (γ:=Nat) [46,47,48,114,115] (fun m=>[(116,.int .i64 m),(3,.int .i64 (wV f.vars+xn (f.blocks.take k)+(f.blocks[k].name.size+10*(f.blocks[k].phis.length+f.blocks[k].insts.length))+wP f.blocks[k].phis+wX (f.blocks[k].insts.take m):Nat))]) (fun m=>[(i7,.cells 51 (dk f.blocks[k]))]) (fun m=>m≤f.blocks[k].insts.length∧wX (f.blocks[k].insts.take m)≤400*m∧∀p∈f.blocks[k].insts.take m,p.args.length≤400) (fun m=>f.blocks[k].insts.length - m) 0 ⟨Z,(congrArg (AV.int .i64) (by simp[wX]<;>omega)),trivial⟩ aH (⟨qw _,by simp[wX],by simp⟩) ?_
        rintro m ⟨hm,hwx,hx⟩
        refine ai<|ax Z Z<|z6<|zd<|zt Z (fun cm=>?_) (fun cm=>?_)
        ·have hm1:m<f.blocks[k].insts.length:=by omega
         have hq1:=hb4 _ (qx hm1)
         have hl6:=hq1.lt
         have hs2:=EV hm1
         refine zh<|zd<|zk<|ai<|za (qc jz jx Z Z Z (qt (by omega)))<|ae Y0 jx Z Z<|y6 (cs:=[.int .i64 0,.int .i64 0,.raw (.slice none 0 0),.int .i64 0]) Zf Z Z<|fun i11=>y1 jx Z Z Z Z Z Z .head Z<|z6<|zd<|zd<|ye (γ:=Unit) [3,11,46,47,48,114,115,116] (fun u=>[(127,.bool (decide ((4000:Int)<(wV f.vars+xn (f.blocks.take k)+(f.blocks[k].name.size+10*(f.blocks[k].phis.length+f.blocks[k].insts.length))+wP f.blocks[k].phis+wX (f.blocks[k].insts.take m):Nat))||decide ((400:Int)<f.blocks[k].insts[m].args.length)))]) (fun u=>[(i11,.cells 54 (bF f.blocks[k].insts[m])),(i7,.cells 51 (dk f.blocks[k]))]) (fun u=>True) ?_ (fun _ _ h=>h) ?_
         ·refine aT<|aa Z<|aY Z Z<|aj Z<|zq (s:=122) Z (fun c7=>?_) (fun c7=>?_)
          ·refine z7 Z Z c7<|z7 Z Z c7<|z7 Z Z c7<|z7 Z Z c7<|aw Z c7 Z<|z6 ?_
           exact ⟨(),wU,⟨jb (by simp_all<;>grind),trivial⟩,aH,trivial⟩
          ·refine z8 Z Z c7<|za (zf j5 Z j7 (by decide) Z Z)<|z8 Z Z c7<|za (zo (c:=.fro _ _) je Z ⟨_,.head⟩ Z)<|z8 Z Z c7<|ap wy Z<|z8 Z Z c7<|aY Z Z<|ay Z c7 Z<|z6 ?_
           exact ⟨(),wU,⟨jb (by simp_all<;>grind),trivial⟩,aH,trivial⟩
         ·rintro _ _
          refine zy Z (fun cp=>?_) (fun cp=>?_)
          ·refine ai<|ab Z<|z6<|zi<|zn (x:=.bool _) Z ?_
           exact ⟨_,rfl,fun h=>(by cases h),fun hl=>absurd hl (fun hl=>by obtain ⟨_,_,_,_,h4⟩:=hl.2.2.2.2.1 _ (qx hk1);have h5:=h4 _ (qx hm1);have h9:=nN hl hk1;have hwb:wB f.blocks[k]=f.blocks[k].name.size+10*(f.blocks[k].phis.length+f.blocks[k].insts.length)+wP f.blocks[k].phis+wX f.blocks[k].insts:=rfl;have h10:=FH f.blocks[k].insts m;simp only[Bool.or_eq_true,wg] at cp;omega)⟩
          ·rcases Bool.or_eq_false_iff.1 cp with ⟨a1,a2⟩
           have a2:=we a2
           refine zh<|aT<|aa Z<|za (zf j5 Z j7 (by decide) Z Z)<|za (zo (c:=.fro _ _) je Z ⟨_,.head⟩ Z)<|ap wy Z<|aC Z Z<|ak Z<|z6<|aT<|aC Z Z<|aa Z<|z6 ?_
           exact ⟨m+1,sj,⟨rfl,congrArg (AV.int .i64) (by rw[hs2];omega),trivial⟩,⟨_,(.drop (.refl _)),rfl⟩,⟨hm1,by omega,eR hm1 hx (by omega)⟩,by omega⟩
        ·obtain rfl:m=f.blocks[k].insts.length:=by omega
         rw[qy] at hwx hx
         rw[qy]
         refine y5<|ai<|aa Z<|aY Z Z<|z6<|zt Z (fun cz=>?_) (fun cz=>?_)
         ·refine ai<|ab Z<|z6<|zi<|zn (x:=.bool _) Z ?_
          exact ⟨_,rfl,fun h=>(by cases h),fun hl=>absurd hl (fun hl=>by have h9:=nN hl hk1;have hwb:wB f.blocks[k]=f.blocks[k].name.size+10*(f.blocks[k].phis.length+f.blocks[k].insts.length)+wP f.blocks[k].phis+wX f.blocks[k].insts:=rfl;omega)⟩
         ·have hwb:wB f.blocks[k]=f.blocks[k].name.size+10*(f.blocks[k].phis.length+f.blocks[k].insts.length)+wP f.blocks[k].phis+wX f.blocks[k].insts:=rfl
          refine zh<|aT<|aC Z Z<|aa Z<|z6 ?_
          exact ⟨k+1,eh,⟨rfl,congrArg (AV.int .i64) (by rw[hs];omega),trivial⟩,⟨_,(.drop (.refl _)),rfl⟩,⟨hk1,by omega,by omega,eR hk1 hb ⟨hsb.1,hsb.2.1,hsb.2.2,hp,hx⟩⟩,by omega⟩
    ·obtain rfl:k=f.blocks.length:=by omega
     rw[qy] at hw2 hw3 hb
     refine y5<|ai<|ab Z<|z6<|zi<|zn (x:=.bool _) Z ?_
     exact ⟨_,rfl,fun _=>⟨hsz.1,hsz.2.1,hsz.2.2,hv,hb,fun hne=>hw2 (List.length_pos_iff.2 hne)⟩,fun _=>rfl⟩
theorem oI (f:ac) (hf:tm f) (hn:mM f) (hL:bz E):aM prog E 76 [.agg (bD f)] (.bool (decide (bS f))):=by
 refine zp func76 Z (by decide) Z<|ai<|y9 (cs:=_) Z Z Z<|ab Z<|z6<|ai<|ae jv jj Z Z<|zg (pQ _ (by assumption) (by assumption) hL) Z<|ab Z<|z6<|zi<|zn (x:=.bool _) Z ?_
 rfl
noncomputable def D4 (f:ac):Bool:=@decide (nu f) (Classical.propDecidable _)
theorem m5 (f:ac):D4 f=true↔nu f:=by unfold D4;exact @decide_eq_true_iff _ (Classical.propDecidable _)
theorem B6 (f:ac) (hf:sF f):aM prog E 8 [.agg (bD f)] (.bool (D4 f)):=
 (wi f hf).mono fun x O' ⟨b,e,h⟩=>by
  rw[e]
  congr 1
  rw[w3,h,m5]
theorem rV (f:ac) (hE:bV f) (hf:small f) (hS:bS f):aM prog E 21 [.agg (bD f)] (.bool (jZ f&&iY f)):=by
 have hn:=hf.2.2.1
 refine zp func21 Z (by decide) Z<|ai<|y9 (cs:=_) Z Z Z<|ab Z<|z6<|zd<|ai<|au jg Z Z8 Z Z<|aI Zh Z<|ap ju Z<|aa Z<|z6<|zk<|y7 (γ:=Nat) [1,8,9] (fun i=>[(10,.int .i64 i)]) (fun i=>[]) (fun i=>i≤f.blocks.length∧(f.blocks.take i).all (fun b=>!(b.insts.any fun x=>decide (x.op=25)||decide (x.op=26)))=true) (fun i=>f.blocks.length - i) 0 aK aH (⟨qw _,Z⟩) ?_
 rintro i ⟨hi,hall⟩
 refine ai<|ax Z Z<|z6<|zd<|zt Z (fun ci=>?_) (fun ci=>?_)
 ·have hi2:i<f.blocks.length:=by simp at ci;omega
  obtain ⟨b,hbi⟩:∃b,f.blocks[i]=b:=⟨_,rfl⟩
  have hget:f.blocks[i]?=some b:=by rw[qt hi2,hbi]
  have hmem:b∈f.blocks:=hbi▸qx hi2
  obtain ⟨hb0,hb1,hb2,hb3,hb4⟩:=hf.2.2.2.2 b hmem
  obtain ⟨hPh,hIn,hTm⟩:=hS.2.2.2.2.2 b hmem
  refine zh<|zd<|zk<|ai<|za (bv i ju jy Z Z Z hget)<|ae Yo jy Z Z<|y6 (cs:=[.str ⟨#[]⟩,.raw (.slice none 0 0),.raw (.slice none 0 0),.int .i64 0,.int .i64 0,.int .i64 0,.int .i64 0]) Zl Z Z<|fun i4=>y1 jy Z Z Z Z Z Z .head Z<|ze (yc (t:=4) Z .head)<|z6<|ai<|au ji Z Zq Z Z<|aI Y4 Z<|ap jz Z<|aa Z<|z6<|zk<|y7 (γ:=Nat) [1,8,9,10,15,16] (fun k=>[(17,.int .i64 k)]) (fun k=>[]) (fun k=>k≤b.insts.length∧(b.insts.take k).all (fun x=>!(decide (x.op=25)||decide (x.op=26)))=true) (fun k=>b.insts.length - k) 0 aK aH (⟨qw _,Z⟩) ?_
  rintro k ⟨hk,hkall⟩
  refine ai<|ax Z Z<|z6<|zd<|zt Z (fun ck=>?_) (fun ck=>?_)
  ·have hk2:k<b.insts.length:=by simp at ck;omega
   have hI:=(gN (hIn _ (qx hk2))).op
   refine zh<|zd<|zk<|ai<|za (bv k jz jx Z Z Z (qt hk2))<|ae Y0 jx Z Z<|y6 (cs:=[.int .i64 0,.int .i64 0,.raw (.slice none 0 0),.int .i64 0]) Zf Z Z<|fun i6=>y1 jx Z Z Z Z Z Z .head Z<|ze (yc (t:=6) Z .head)<|z6<|ai<|au j5 Z Z2 Z Z<|aA Z3 Z<|za (q5 Z Z)<|z6<|zt Z (fun cq=>?_) (fun cq=>?_)
   ·have hbad:(b.insts.any fun x=>decide (x.op=25)||decide (x.op=26))=true:=List.any_eq_true.2 ⟨_,qx hk2,by simp;omega⟩
    refine ai<|ab Z<|z6<|zi<|zn (x:=.bool _) Z ?_
    rw[show jZ f=false from Bool.eq_false_iff.2 (dh hi2 (by rw[hbi,hbad];rfl))];rfl
   ·refine zh<|aT<|aC Z Z<|aa Z<|z6 ?_
    exact ⟨k+1,yV,aK,aH,⟨hk2,bI hk2 hkall (by simp;omega)⟩,by omega⟩
  ·have hkn:k=b.insts.length:=by simp at ck;omega
   rw[hkn,qy] at hkall
   have hgood:(b.insts.any fun x=>decide (x.op=25)||decide (x.op=26))=false:=List.any_eq_false.2 fun x hx=>by have:=List.all_eq_true.1 hkall x hx;simpa using this
   refine y5<|aT<|aC Z Z<|aa Z<|z6 ?_
   exact ⟨i+1,de,aK,aH,⟨hi2,bI hi2 hall (by rw[hbi,hgood];rfl)⟩,by omega⟩
 ·have hin:i=f.blocks.length:=by simp at ci;omega
  rw[hin,qy] at hall
  refine y5<|ai<|ae jv jj Z Z<|zg (rj f hE hf hS) Z<|ab Z<|z6<|zi<|zn (x:=.bool _) Z ?_
  rw[show jZ f=true from hall];rfl
theorem ro (f:ac) (hf:small f) (hL:bz E):aM prog E 39 [.agg (bD f)] (.bool (bi f)):=by
 have hs:=oI (E:=E) f hf.ok hf.names hL
 refine zp func39 Z (by decide) Z<|ai<|y9 (cs:=_) Z Z Z<|ab Z<|z6<|ai<|ae jv jj Z Z<|zg (hs) Z ?_
 by_cases g4:bS f
 ·refine aj Z<|z8 Z Z (w8 g4)<|ae jv jj Z Z<|z8 Z Z (w8 g4)<|zg (rU f hf g4) Z<|za (uo Z (w8 g4) Z)<|ab Z<|z6<|zi<|zn (x:=.bool _) Z ?_
  exact jb (by unfold bi;rw[hZ,w8 g4];rfl)
 ·refine aj Z<|z7 Z Z (w9 g4)<|z7 Z Z (w9 g4)<|za (si Z (w9 g4) Z)<|ab Z<|z6<|zi<|zn (x:=.bool _) Z ?_
  exact jb (by unfold bi;rw[hZ,w9 g4];rfl)
theorem rW (f:ac) (hw:sF f) (hL:bz E):aM prog E 20 [.agg (bD f)] (.bool (D4 f&&bi f)):=by
 refine zp func20 Z (by decide) Z<|ai<|y9 (cs:=_) Z Z Z<|ab Z<|z6<|ai<|ae jv jj Z Z<|zg (B6 f hw) Z<|aj Z<|zq (s:=5) Z (fun g=>?_) (fun g=>?_)
 ·refine z8 Z Z g<|ae jv jj Z Z<|z8 Z Z g<|zg (ro f ((m5 f).1 g).small hL) Z<|aw Z g Z<|ab Z<|z6<|zi<|zn (x:=.bool _) Z ?_
  exact jb (by rw[g];rfl)
 ·refine z7 Z Z g<|z7 Z Z g<|ay Z g Z<|ab Z<|z6<|zi<|zn (x:=.bool _) Z ?_
  exact jb (by rw[g];rfl)
noncomputable def ik (f:ac):Bool:=D4 f&&bi f&&(dH f&&jZ f)
theorem D5 {a b:Bool} (h:(a&&b)=true):a=true∧b=true:=by simpa using h
theorem wj {f:ac} (h:bi f=true):iY f=dH f:=
 Dm (dQ h) fun b hb p hp c hc=>by
  have h1:=((eE h).2.2.2.2.2 b hb).1 p hp
  have h2:=List.all_eq_true.1 h1.2.2.2.2 c hc
  simpa [eN] using h2
theorem rX (f:ac) (hw:sF f) (hL:bz E):aM prog E 10 [.agg (bD f)] (.bool (ik f)):=by
 refine zp func10 Z (by decide) Z<|ai<|y9 (cs:=_) Z Z Z<|ab Z<|z6<|ai<|ae jv jj Z Z<|zg (rW f hw hL) Z<|aj Z<|zq (s:=5) Z (fun g=>?_) (fun g=>?_)
 ·refine z8 Z Z g<|ae jv jj Z Z<|z8 Z Z g<|zg (rV f (dQ (D5 g).2) ((m5 f).1 (D5 g).1).small (eE (D5 g).2)) Z<|aw Z g Z<|ab Z<|z6<|zi<|zn (x:=.bool _) Z ?_
  exact jb (by unfold ik;rw[g,wj (D5 g).2,Bool.and_comm];rfl)
 ·refine z7 Z Z g<|z7 Z Z g<|ay Z g Z<|ab Z<|z6<|zi<|zn (x:=.bool _) Z ?_
  exact jb (by unfold ik;rw[g];rfl)
end Go.Proofs.YtdilpodccjlkgaaGreatDoor
namespace Go.Proofs.YtdilpodccjlkgaaGreatDoor
open Go.Proofs.Tryz
end Go.Proofs.YtdilpodccjlkgaaGreatDoor
