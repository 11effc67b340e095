/- The first check of a block; how it comes from another block; whether it was passed there; what becomes of a program when it moves. Plain law. No conditions. -/
import Derived.Test.YtdilpodccjlkgaaGreatDoorLs
import Derived.Test.YtdilpodccjlkgaaGreatDoorLh
import Derived.Test.YtdilpodccjlkgaaGreatDoorLm
set_option linter.unusedVariables false
set_option linter.unusedSimpArgs false
set_option linter.unusedSectionVars false
namespace Go.Proofs.YtdilpodccjlkgaaGreatDoor
open Go.Proofs.Tryz
open Go.Proofs Go.Lib Go.Shelf Go.RowKit
variable {E:World}
set_option maxRecDepth 20000
theorem AB {f:ad} {x:aB} {m:Nat} (e:x.op=1) (h:m<(f6 f x).length):(f6 f x)[m]=bj f x.dst:=by
 have h2:(f6 f x)[m]?=some (bj f x.dst):=by
  unfold f6 at h ⊢
  rw[if_pos e] at h ⊢
  simp at h
  subst h;rfl
 rw[qi h] at h2
 exact Option.some.inj h2
theorem AC {f:ad} {x:aB} {m:Nat} (e:¬x.op=1) (h:m<(f6 f x).length) (h':m<(bo x.op).length):(f6 f x)[m]=(bo x.op)[m]:=by
 have h2:(f6 f x)[m]?=some ((bo x.op)[m]):=by
  unfold f6
  rw[if_neg e,qi h']
 rw[qi h] at h2
 exact Option.some.inj h2
theorem xw {f:ad} {t:ft} (h:bv f t=true):t.kind=0∨t.kind=1∨t.kind=2:=by
 unfold bv at h
 by_cases h0:t.kind=0
 ·exact .inl h0
 ·rw[if_neg h0] at h
  by_cases h1:t.kind=1
  ·exact .inr (.inl h1)
  ·rw[if_neg h1] at h
   by_cases h2:t.kind=2
   ·exact .inr (.inr h2)
   ·rw[if_neg h2] at h;cases h
set_option maxHeartbeats 8000000 in
theorem ph (f:ad) (hf:small f) (hS:bz f):aI prog E 77 [.agg (bD f)] (.bool (f.blocks.all (gt f))):=by
 have hn:=hf.2.2.1
 refine zo func77 Z (by decide) Z<|ah<|ya (cs:=_) Z Z Z<|ab Z<|z6<|zd<|ah<|aq je Z Z0 Z Z<|aH Zb Z<|ap ji Z<|aa Z<|z6<|zj<|y8 (γ:=Nat) [1,16,17] (fun i=>[(18,.int .i64 i)]) (fun i=>[]) (fun i=>i≤f.blocks.length∧(f.blocks.take i).all (gt f)=true) (fun i=>f.blocks.length - i) 0 aJ aE (⟨ql _,Z⟩) ?_
 rintro i ⟨hi,hall⟩
 refine ah<|aw Z Z<|z6<|zd<|zw Z (fun ci=>?_) (fun ci=>?_)
 ·have hi2:i<f.blocks.length:=by simp at ci;omega
  obtain ⟨b,hbi⟩:∃b,f.blocks[i]=b:=⟨_,rfl⟩
  have hget:f.blocks[i]?=some b:=by rw[qi hi2,hbi]
  have hmem:b∈f.blocks:=hbi▸qm hi2
  obtain ⟨hb0,hb1,hb2,hb3,hb4⟩:=hf.2.2.2.2 b hmem
  obtain ⟨hPh,hIn,hTm⟩:=hS.2.2.2.2.2 b hmem
  have hbad:gt f b=false→f.blocks.all (gt f)=false:=fun h=>Bool.eq_false_iff.2 (cG hi2 (by rw[hbi];exact h))
  refine zg<|zd<|zj<|ah<|za (bx i ji ju Z Z Z hget)<|ac Y4 ju Z Z<|y5 (cs:=[.str ⟨#[]⟩,.raw (.slice none 0 0),.raw (.slice none 0 0),.int .i64 0,.int .i64 0,.int .i64 0,.int .i64 0]) Zc Z Z<|fun i4=>zz ju Z Z Z Z Z Z .head Z<|ze (yd (t:=4) Z .head)<|z6<|zd<|ah<|aq jg Z Y9 Z Z<|aH Yj Z<|ap jz Z<|aa Z<|z6<|zj<|y8 (γ:=Nat) [1,4,16,17,18,23,24] (fun j=>[(25,.int .i64 j)]) (fun j=>[]) (fun j=>j≤b.phis.length∧(b.phis.take j).all (qL f)=true) (fun j=>b.phis.length - j) 0 aJ aE (⟨ql _,Z⟩) ?_
  rintro j ⟨hj,hjall⟩
  refine ah<|aw Z Z<|z6<|zd<|zw Z (fun cj=>?_) (fun cj=>?_)
  ·have hj2:j<b.phis.length:=by simp at cj;omega
   obtain ⟨p,hp⟩:∃p,b.phis[j]=p:=⟨_,rfl⟩
   have hpm:p∈b.phis:=hp▸qm hj2
   obtain ⟨hpd,hpl,hpn,hpa,hpf⟩:=hPh p hpm
   have hpb:=(hb3 p hpm).1
   refine zg<|zd<|zj<|ah<|za (bx j jz Z8 Z Z Z (by rw[qi hj2,hp])) ?_
   refine ac Yo Z8 Z Z<|y5 (cs:=[.int .i64 0,.raw (.slice none 0 0),.raw (.slice none 0 0)]) Y6 Z Z<|fun i6=>zz Z8 Z Z Z Z Z Z .head Z<|ze (yd (t:=6) Z .head)<|z6<|ah<|aq jx Z j5 Z Z<|aH j9 Z<|ap wx Z<|aa Z<|z6<|zj<|y8 (γ:=Nat) [1,4,6,16,17,18,23,24,25,30,31] (fun k=>[(32,.int .i64 k)]) (fun k=>[]) (fun k=>k≤p.args.length∧(p.args.take k).all (fun v=>decide (bj f v=bj f p.dst))=true) (fun k=>p.args.length - k) 0 aJ aE (⟨ql _,Z⟩) ?_
   rintro k ⟨hk,hkall⟩
   refine ah<|aw Z Z<|z6<|zd<|zw Z (fun ck=>?_) (fun ck=>?_)
   ·have hk2:k<p.args.length:=by simp at ck;omega
    obtain ⟨v,hv⟩:∃v,p.args[k]=v:=⟨_,rfl⟩
    have hvv:=List.all_eq_true.1 hpa v (hv▸qm hk2)
    refine zg<|zd<|zj<|ah<|za (bx k wx wz Z Z Z (by rw[qi hk2,hv])) ?_
    refine ay j6 Z<|ao Z<|z6<|zd<|zt (fun j=>false) (by kernel_rfl) Z (zm (.rest _))<|aj 0 Z (yt jj jh Z Z)<|aj 1 Z (dF Z)<|aj 3 Z (yt jj jh Z Z)<|aj 4 Z (bK jx Z wz Z Z)<|aj 5 Z (da j6 Z)<|aY 2 Z<|zf (fg f v hvv) Z<|z6<|aY 6 Z<|zf (fg f p.dst hpd) Z<|z6<|aj 7 Z (Gv.neqI Z Z)<|bV<|zu Z (fun cq=>?_) (fun cq=>?_)
    ·have hq:¬bj f v=bj f p.dst:=by simpa using cq
     have hph:qL f p=false:=by
      unfold qL
      rw[show (p.args.any fun v=>!decide (bj f v=bj f p.dst))=true from List.any_eq_true.2 ⟨v,hv▸qm hk2,by simp[hq]⟩];rfl
     refine ah<|ab Z<|z6<|zh<|zk (x:=.bool _) Z ?_
     rw[hbad (by unfold gt;rw[show b.phis.all (qL f)=false from Bool.eq_false_iff.2 (cG hj2 (by rw[hp];exact hph))];rfl)]
    ·have hq:bj f v=bj f p.dst:=by simpa using cq
     refine zg<|aV<|aC Z Z<|aa Z<|z6 ?_
     exact ⟨k+1,⟨rfl,rfl,rfl,rfl,rfl,rfl,rfl,rfl,rfl,rfl,rfl,trivial⟩,aJ,aE,⟨hk2,bt hk2 hkall (by rw[hv];simp[hq])⟩,by omega⟩
   ·have hkn:k=p.args.length:=by simp at ck;omega
    rw[hkn,qn] at hkall
    have hph:qL f p=true:=by
     unfold qL
     rw[show (p.args.any fun v=>!decide (bj f v=bj f p.dst))=false from List.any_eq_false.2 fun v hv=>by have:=List.all_eq_true.1 hkall v hv;simpa using this];rfl
    refine y7<|aV<|aC Z Z<|aa Z<|z6 ?_
    exact ⟨j+1,kA,aJ,aE,⟨hj2,bt hj2 hjall (by rw[hp];exact hph)⟩,by omega⟩
  ·have hjn:j=b.phis.length:=by simp at cj;omega
   subst hjn
   rw[qn] at hjall
   refine y7<|zd<|ah<|aq jg Z Zd Z Z<|aH Zs Z<|ap jt Z<|aa Z<|z6<|zj<|y8 (γ:=Nat) [1,4,16,17,18,47,48] (fun k=>[(49,.int .i64 k)]) (fun k=>[]) (fun k=>k≤b.insts.length∧(b.insts.take k).all (gm f)=true) (fun k=>b.insts.length - k) 0 aJ aE (⟨ql _,Z⟩) ?_
   rintro k ⟨hk,hkall⟩
   refine ah<|aw Z Z<|z6<|zd<|zw Z (fun ck=>?_) (fun ck=>?_)
   ·have hk2:k<b.insts.length:=by simp at ck;omega
    obtain ⟨z,hz⟩:∃z,b.insts[k]=z:=⟨_,rfl⟩
    have hzm:z∈b.insts:=hz▸qm hk2
    have hI:=fK (hIn z hzm)
    have hzl:=hb4 z hzm
    have hwl:=xv hI
    have hdst:dU z.op=true→aT f z.dst=true:=fun h=>by
     rcases hI.dst with ⟨d1,_⟩|⟨_,_,d3⟩
     ·rw[h] at d1;cases d1
     ·exact d3
    have hcopy:z.op=1→dU z.op=true:=fun h=>by rw[h];rfl
    have hib:gm f z=false→f.blocks.all (gt f)=false:=fun h=>hbad (by unfold gt;rw[hjall,show b.insts.all (gm f)=false from Bool.eq_false_iff.2 (cG hk2 (by rw[hz];exact h))];rfl)
    refine zg<|zd<|zj<|ah<|za (bx k jt jk Z Z Z (by rw[qi hk2,hz])) ?_
    refine ac Zn jk Z Z<|y5 (cs:=[.int .i64 0,.int .i64 0,.raw (.slice none 0 0),.int .i64 0]) Z5 Z Z<|fun i10=>zz jk Z Z Z Z Z Z .head Z<|ze (yd (t:=10) Z .head)<|z6<|zd<|yg (γ:=Nat) [1,4,10,16,17,18,47,48,49] (fun g=>[(11,.po g 0)]) (fun g=>[(g,.cells 154 (o8 (bS z.op)))]) (fun g=>True) ?_ (fun _ _ h=>h) ?_
    ·refine zt (fun j=>false) (by kernel_rfl) Z (zm (.rest _))<|aj 1 Z (bK wy Z jv Z Z)<|aj 2 Z (da jy Z)<|yn (i:=0) (j:=5) Z Z (by kernel_rfl) ?_ ?_
     ·refine zf (kd) Z<|z6<|aj 3 Z (bx z.op.toNat underlying155 Yc Z Z (by have:=hI.op;omega) (tz hI.op))<|aj 4 Z (yt isAgg154 Yc Z Z)<|aY 5 Z<|y5 (cs:=[.str ⟨#[]⟩,.str ⟨#[]⟩,.str ⟨#[]⟩]) Yu Z Z<|fun i11=>z6<|aY 6 Z<|zz Yc Z Z Z Z Z Z .head Z<|z6<|bV ?_
      exact ⟨i11,qE,aJ,aE,trivial⟩
     ·refine y5 (cs:=[.str ⟨#[]⟩,.str ⟨#[]⟩,.str ⟨#[]⟩]) Yu Z Z<|fun i11=>z6<|aY 0 Z<|zf (kd) Z<|z6<|aj 3 Z (bx z.op.toNat underlying155 Yc Z Z (by have:=hI.op;omega) (tz hI.op))<|aj 4 Z (yt isAgg154 Yc Z Z)<|aY 6 Z<|zz Yc Z Z Z Z Z Z .head Z<|z6<|bV ?_
      exact ⟨i11,qE,aJ,aE,trivial⟩
    ·rintro i11 _
     refine zd<|ah<|aq wy Z j5 Z Z<|aH j9 Z<|ap wx Z<|aa Z<|z6<|zj<|y8 (γ:=Nat) [1,4,10,11,16,17,18,47,48,49,60] (fun m=>[(61,.int .i64 m)]) (fun m=>[(i11,.cells 154 (o8 (bS z.op)))]) (fun m=>m≤z.args.length∧(z.args.take m).map (bj f)=(f6 f z).take m) (fun m=>z.args.length - m) 0 aJ aE (⟨ql _,by simp⟩) ?_
     rintro m ⟨hm,hmall⟩
     refine ah<|aw Z Z<|z6<|zd<|zw Z (fun cm=>?_) (fun cm=>?_)
     ·have hm2:m<z.args.length:=by simp at cm;omega
      have hmw:m<(f6 f z).length:=by omega
      have hmt:m<(bo z.op).length:=by have:=hI.len;omega
      obtain ⟨v,hv⟩:∃v,z.args[m]=v:=⟨_,rfl⟩
      have hvv:=hI.args v (hv▸qm hm2)
      obtain ⟨c,hc,hct⟩:=uZ hmt
      have hbadm:¬bj f v=(f6 f z)[m]→f.blocks.all (gt f)=false:=fun h=>hib (by rw[oH hI,qw (yH hm2 hmw (by rw[hv];exact h))];rfl)
      refine zg<|zd<|zj<|ah<|aa Z<|ao Z<|z6<|ah<|za (zn Zt Z Zu (by decide) Z Z)<|za (zq (c:=.str _) Y0 Z ⟨_,.head⟩ Z)<|aa Z<|za (Gv.indexT (j:=m) Zi Z Z Z hc)<|zf (oG (c.toNat:Int)) Z<|ao Z<|z6<|zd<|ah<|za (zn Zt Z Zu (by decide) Z Z)<|za (zq (c:=.str _) Y0 Z ⟨_,.head⟩ Z)<|za (Gv.eqlT Z Z)<|z6<|zu Z (fun cw=>?_) (fun cw=>?_)
      ·have ew:z.op=1:=(nf hI.op).1 (by simpa using cw)
       refine aV<|ac jj jh Z Z<|aq wy Z wz Z Z<|ay j6 Z<|zf (fg f z.dst (hdst (hcopy ew))) Z<|ao Z<|z6<|zd<|zt (fun j=>false) (by kernel_rfl) Z (zm (.rest _))<|aj 0 Z (yt jj jh Z Z)<|aj 1 Z (bK wy Z j5 Z Z)<|aj 2 Z (eH j9 Z)<|aj 3 Z (dF Z)<|aj 4 Z (bx m wx wz Z Z Z (by rw[qi hm2,hv])) ?_
       refine aj 5 Z (da j6 Z)<|aj 7 Z (dF Z)<|aY 6 Z<|zf (fg f v hvv) Z<|z6<|aj 8 Z (Gv.neqI Z Z)<|bV<|zu Z (fun cq=>?_) (fun cq=>?_)
       ·have hq:¬bj f v=bj f z.dst:=by simpa using cq
        refine ah<|ab Z<|z6<|zh<|zk (x:=.bool _) Z ?_
        rw[hbadm (by rw[AB ew hmw];exact hq)]
       ·have hq:bj f v=bj f z.dst:=by simpa using cq
        refine zg<|aV<|aC Z Z<|aa Z<|z6 ?_
        exact ⟨m+1,⟨rfl,rfl,rfl,rfl,rfl,rfl,rfl,rfl,rfl,rfl,rfl,trivial⟩,aJ,aE,⟨hm2,gK hm2 hmw hmall (by rw[hv,AB ew hmw];exact hq)⟩,by omega⟩
      ·have ew:¬z.op=1:=fun e=>by have:=(nf hI.op).2 e;simp[this] at cw
       refine zg<|zd<|zt (fun j=>false) (by kernel_rfl) Z (zm (.rest _))<|aj 0 Z (yt jj jh Z Z)<|aj 1 Z (bK wy Z j5 Z Z)<|aj 2 Z (eH j9 Z)<|aj 3 Z (dF Z)<|aj 4 Z (bx m wx wz Z Z Z (by rw[qi hm2,hv])) ?_
       refine aj 5 Z (da j6 Z)<|aj 7 Z (dF Z)<|aY 6 Z<|zf (fg f v hvv) Z<|z6<|aj 8 Z (Gv.neqI Z Z)<|bV<|zu Z (fun cq=>?_) (fun cq=>?_)
       ·have hq:¬bj f v=dN (c.toNat:Int):=by simpa using cq
        refine ah<|ab Z<|z6<|zh<|zk (x:=.bool _) Z ?_
        rw[hbadm (by rw[AC ew hmw hmt,hct];exact hq)]
       ·have hq:bj f v=dN (c.toNat:Int):=by simpa using cq
        refine zg<|aV<|aC Z Z<|aa Z<|z6 ?_
        exact ⟨m+1,⟨rfl,rfl,rfl,rfl,rfl,rfl,rfl,rfl,rfl,rfl,rfl,trivial⟩,aJ,aE,⟨hm2,gK hm2 hmw hmall (by rw[hv,AC ew hmw hmt,hct];exact hq)⟩,by omega⟩
     ·have hmn:m=z.args.length:=by simp at cm;omega
      have hall2:z.args.map (bj f)=f6 f z:=by rw[hmn,qn,hwl,qn] at hmall;exact hmall
      have hiw:=oH hI
      rw[qv hall2,Bool.true_and] at hiw
      refine y7<|zd<|zt (fun j=>false) (by kernel_rfl) Z (zm (.r (.rest _)))<|aj 0 Z (zn Zt Z Zu (by decide) Z Z)<|aj 1 Z (zq (c:=.str _) Y0 Z ⟨_,.head⟩ Z)<|aj 2 Z (Gv.neqT Z Z)<|aj 3 Z (m4 Z)<|qe (s:=89) Z (fun c1=>?_) (fun c1=>?_)
      ·have d1:¬(bS z.op).2.2=⟨#[]⟩:=by simpa using c1
       have dm:dU z.op=true:=by rw[ke,qw d1];rfl
       obtain ⟨c,hc,hct⟩:=u4 d1
       refine cC 4 Z Z Z c1 (zn Zt Z Zu (by decide) Z Z)<|cC 5 Z Z Z c1 (zq (c:=.str _) Y0 Z ⟨_,.head⟩ Z)<|cC 6 Z Z Z c1 (Gv.neqT Z Z)<|aj 7 Z (rR Z c1 Z)<|aj 8 Z (m4 Z)<|qe (s:=94) Z (fun c2=>?_) (fun c2=>?_)
       ·have ew:¬z.op=1:=fun e=>by have:=(nf hI.op).2 e;simp[this] at c2
        refine cC 9 Z Z Z c2 (yt jj jh Z Z)<|cC 10 Z Z Z c2 (bK wy Z wz Z Z)<|cC 11 Z Z Z c2 (da j6 Z)<|cC 13 Z Z Z c2 (zn Zt Z Zu (by decide) Z Z)<|cC 14 Z Z Z c2 (zq (c:=.str _) Y0 Z ⟨_,.head⟩ Z)<|cC 15 Z Z Z c2 (Gv.indexT (j:=0) Zi Z Z Z hc)<|aY 12 Z<|z8 Z Z c2<|zf (fg f z.dst (hdst dm)) Z<|z6<|aY 16 Z<|z8 Z Z c2<|zf (oG (c.toNat:Int)) Z<|z6<|cC 17 Z Z Z c2 (Gv.neqI Z Z)<|aj 18 Z (rR Z c2 Z)<|bV<|zu Z (fun cq=>?_) (fun cq=>?_)
        ·have hq:¬bj f z.dst=dN (c.toNat:Int):=by simpa using cq
         refine ah<|ab Z<|z6<|zh<|zk (x:=.bool _) Z ?_
         rw[hib (by rw[hiw,dm,qw ew,hct,qw hq];rfl)]
        ·have hq:bj f z.dst=dN (c.toNat:Int):=by simpa using cq
         refine zg<|aV<|aC Z Z<|aa Z<|z6 ?_
         exact ⟨k+1,kA,aJ,⟨_,(.drop (.refl _)),rfl⟩,⟨hk2,bt hk2 hkall (by rw[hz,hiw,hct,qv hq];simp)⟩,by omega⟩
       ·have ew:z.op=1:=(nf hI.op).1 (by simpa using c2)
        refine bR 9 Z Z Z c2<|bR 10 Z Z Z c2<|bR 11 Z Z Z c2<|bR 12 Z Z Z c2<|bR 13 Z Z Z c2<|bR 14 Z Z Z c2<|bR 15 Z Z Z c2<|bR 16 Z Z Z c2<|bR 17 Z Z Z c2<|aj 18 Z (qD Z c2 Z)<|bV<|ye Z Z<|zg<|aV<|aC Z Z<|aa Z<|z6 ?_
        exact ⟨k+1,kA,aJ,⟨_,(.drop (.refl _)),rfl⟩,⟨hk2,bt hk2 hkall (by rw[hz,hiw,qv ew];simp)⟩,by omega⟩
      ·have d1:(bS z.op).2.2=⟨#[]⟩:=by simpa using c1
       have dm:dU z.op=false:=by rw[ke,qv d1];rfl
       refine bR 4 Z Z Z c1<|bR 5 Z Z Z c1<|bR 6 Z Z Z c1<|aj 7 Z (qD Z c1 Z)<|aj 8 Z (m4 Z)<|bR 9 Z Z Z Z<|bR 10 Z Z Z Z<|bR 11 Z Z Z Z<|bR 12 Z Z Z Z<|bR 13 Z Z Z Z<|bR 14 Z Z Z Z<|bR 15 Z Z Z Z<|bR 16 Z Z Z Z<|bR 17 Z Z Z Z<|aj 18 Z (qD Z Z Z)<|bV<|ye Z Z<|zg<|aV<|aC Z Z<|aa Z<|z6 ?_
       exact ⟨k+1,kA,aJ,⟨_,(.drop (.refl _)),rfl⟩,⟨hk2,bt hk2 hkall (by rw[hz,hiw,dm];rfl)⟩,by omega⟩
   ·have hkn:k=b.insts.length:=by simp at ck;omega
    rw[hkn,qn] at hkall
    refine y7<|ah<|aq jg Z Zm Z Z<|ac isAgg49 Zm Z Z<|y5 (cs:=[.int .i64 0,.int .i64 0,.int .i64 0,.int .i64 0]) zeroValue49 Z Z<|fun i14=>zz Zm Z Z Z Z Z Z .head Z<|ze (yd (t:=14) Z .head)<|z6<|zd<|yg (γ:=Bool) [1,16,17,18] (fun u=>[(152,.bool u)]) (fun u=>[]) (fun u=>u=!dH f b.term) ?_ (fun _ _ h=>h) ?_
    ·have hk3:=xw hTm
     refine aV<|aq j8 Z Zv Z Z<|ay Y3 Z<|ak Z Z<|ai Z<|zp (s:=111) Z (fun c1=>?_) (fun c1=>?_)
     ·refine z8 Z Z c1<|ac jj jh Z Z<|z8 Z Z c1<|aq j8 Z wz Z Z<|z8 Z Z c1<|ay j6 Z<|z8 Z Z c1<|zf (fg f b.term.var (gu hTm (by simp_all))) Z<|z8 Z Z c1<|aL Z Z<|ar Z c1 Z<|ai Z<|zp (s:=118) Z (fun c2=>?_) (fun c2=>?_)
      ·refine z7 Z Z c2<|z7 Z Z c2<|z7 Z Z c2<|z7 Z Z c2<|zi Z Z<|zi Z Z<|zi Z Z<|zi Z Z<|zi Z Z<|zi Z Z<|zi Z Z<|zi Z Z<|zi Z Z<|zi Z Z<|zi Z Z<|zi Z Z<|zi Z Z<|zi Z Z<|zi Z Z<|zi Z Z<|zi Z Z<|z7 Z Z c2<|ar Z c2 Z<|ai Z<|z7 Z Z Z<|z7 Z Z Z<|z7 Z Z Z<|z7 Z Z Z<|zi Z Z<|zi Z Z<|zi Z Z<|zi Z Z<|z7 Z Z Z<|ar Z Z Z<|z6 ?_
       exact ⟨_,iS,aJ,aE,by simp_all[dH]<;>omega⟩
      ·refine z8 Z Z c2<|aq j8 Z Zv Z Z<|z8 Z Z c2<|ay Y3 Z<|z8 Z Z c2<|ak Z Z<|z8 Z Z c2<|ai Z<|zp (s:=122) Z (fun c3=>?_) (fun c3=>?_)
       ·refine z8 Z Z c3<|ac jj jh Z Z<|z8 Z Z c3<|aq j8 Z wz Z Z<|z8 Z Z c3<|ay j6 Z<|z8 Z Z c3<|zf (fg f b.term.var (gu hTm (by simp_all))) Z<|z8 Z Z c3<|aL Z Z<|z8 Z Z c3<|ai Z<|zp (s:=128) Z (fun c4=>?_) (fun c4=>?_)
        ·refine z7 Z Z c4<|z7 Z Z c4<|z7 Z Z c4<|z7 Z Z c4<|z8 Z Z c3<|ar Z c4 Z<|z8 Z Z c3<|ai Z<|z7 Z Z Z<|z7 Z Z Z<|z7 Z Z Z<|z7 Z Z Z<|z8 Z Z c3<|ar Z Z Z<|z8 Z Z c2<|ar Z c3 Z<|au Z c2 Z<|ai Z<|z7 Z Z Z<|z7 Z Z Z<|z7 Z Z Z<|z7 Z Z Z<|zi Z Z<|zi Z Z<|zi Z Z<|zi Z Z<|z7 Z Z Z<|ar Z Z Z<|z6 ?_
         exact ⟨_,iS,aJ,aE,by simp_all[dH]<;>omega⟩
        ·refine z8 Z Z c4<|aq j8 Z Z7 Z Z<|z8 Z Z c4<|za (yw (j:=0) jw wz Z Z Z (by decide) Z)<|z8 Z Z c4<|ay j6 Z<|z8 Z Z c4<|ak Z Z<|z8 Z Z c3<|au Z c4 Z<|z8 Z Z c3<|ai Z<|zp (s:=134) Z (fun c5=>?_) (fun c5=>?_)
         ·refine z7 Z Z c5<|z7 Z Z c5<|z7 Z Z c5<|z7 Z Z c5<|z8 Z Z c3<|ar Z c5 Z<|z8 Z Z c2<|ar Z c3 Z<|au Z c2 Z<|ai Z<|z7 Z Z Z<|z7 Z Z Z<|z7 Z Z Z<|z7 Z Z Z<|zi Z Z<|zi Z Z<|zi Z Z<|zi Z Z<|z7 Z Z Z<|ar Z Z Z<|z6 ?_
          exact ⟨_,iS,aJ,aE,by simp_all[dH]<;>omega⟩
         ·refine z8 Z Z c5<|aq j8 Z Z7 Z Z<|z8 Z Z c5<|za (yw (j:=1) jw wz Z Z Z (by decide) Z)<|z8 Z Z c5<|ay j6 Z<|z8 Z Z c5<|ak Z Z<|z8 Z Z c3<|au Z c5 Z<|z8 Z Z c2<|ar Z c3 Z<|au Z c2 Z<|ai Z<|zp (s:=142) Z (fun c6=>?_) (fun c6=>?_)
          ·refine z7 Z Z c6<|z7 Z Z c6<|z7 Z Z c6<|z7 Z Z c6<|zi Z Z<|zi Z Z<|zi Z Z<|zi Z Z<|z7 Z Z c6<|ar Z c6 Z<|z6 ?_
           exact ⟨_,iS,aJ,aE,by simp_all[dH]<;>omega⟩
          ·refine z8 Z Z c6<|aq j8 Z Zv Z Z<|z8 Z Z c6<|ay Y3 Z<|z8 Z Z c6<|ak Z Z<|z8 Z Z c6<|ai Z<|zp (s:=146) Z (fun c7=>?_) (fun c7=>?_)
           ·refine z8 Z Z c7<|aq j8 Z Z7 Z Z<|z8 Z Z c7<|za (yw (j:=0) jw wz Z Z Z (by decide) Z)<|z8 Z Z c7<|ay j6 Z<|z8 Z Z c7<|ak Z Z<|z8 Z Z c6<|ar Z c7 Z<|au Z c6 Z<|z6 ?_
            exact ⟨_,iS,aJ,aE,by simp_all[dH]<;>omega⟩
           ·refine z7 Z Z c7<|z7 Z Z c7<|z7 Z Z c7<|z7 Z Z c7<|z8 Z Z c6<|au Z c7 Z<|au Z c6 Z<|z6 ?_
            exact ⟨_,iS,aJ,aE,by simp_all[dH]<;>omega⟩
       ·refine z7 Z Z c3<|z7 Z Z c3<|z7 Z Z c3<|z7 Z Z c3<|z7 Z Z c3<|z7 Z Z c3<|zi Z Z<|zi Z Z<|zi Z Z<|zi Z Z<|z7 Z Z c3<|z7 Z Z c3<|zi Z Z<|zi Z Z<|zi Z Z<|zi Z Z<|z7 Z Z c3<|z8 Z Z c2<|au Z c3 Z<|au Z c2 Z<|ai Z<|z8 Z Z Z<|aq j8 Z Zv Z Z<|z8 Z Z Z<|ay Y3 Z<|z8 Z Z Z<|ak Z Z<|z8 Z Z Z<|ai Z<|zp (s:=146) Z (fun c8=>?_) (fun c8=>?_)
        ·refine z8 Z Z c8<|aq j8 Z Z7 Z Z<|z8 Z Z c8<|za (yw (j:=0) jw wz Z Z Z (by decide) Z)<|z8 Z Z c8<|ay j6 Z<|z8 Z Z c8<|ak Z Z<|z8 Z Z Z<|ar Z c8 Z<|au Z Z Z<|z6 ?_
         exact ⟨_,iS,aJ,aE,by simp_all[dH]<;>omega⟩
        ·refine z7 Z Z c8<|z7 Z Z c8<|z7 Z Z c8<|z7 Z Z c8<|z8 Z Z Z<|au Z c8 Z<|au Z Z Z<|z6 ?_
         exact ⟨_,iS,aJ,aE,by simp_all[dH]<;>omega⟩
     ·refine z7 Z Z c1<|z7 Z Z c1<|z7 Z Z c1<|z7 Z Z c1<|z7 Z Z c1<|au Z c1 Z<|ai Z<|z8 Z Z Z<|aq j8 Z Zv Z Z<|z8 Z Z Z<|ay Y3 Z<|z8 Z Z Z<|ak Z Z<|z8 Z Z Z<|ai Z<|zp (s:=122) Z (fun c9=>?_) (fun c9=>?_)
      ·refine z8 Z Z c9<|ac jj jh Z Z<|z8 Z Z c9<|aq j8 Z wz Z Z<|z8 Z Z c9<|ay j6 Z<|z8 Z Z c9<|zf (fg f b.term.var (gu hTm (by simp_all))) Z<|z8 Z Z c9<|aL Z Z<|z8 Z Z c9<|ai Z<|zp (s:=128) Z (fun c10=>?_) (fun c10=>?_)
       ·refine z7 Z Z c10<|z7 Z Z c10<|z7 Z Z c10<|z7 Z Z c10<|z8 Z Z c9<|ar Z c10 Z<|z8 Z Z c9<|ai Z<|z7 Z Z Z<|z7 Z Z Z<|z7 Z Z Z<|z7 Z Z Z<|z8 Z Z c9<|ar Z Z Z<|z8 Z Z Z<|ar Z c9 Z<|au Z Z Z<|ai Z<|z7 Z Z Z<|z7 Z Z Z<|z7 Z Z Z<|z7 Z Z Z<|zi Z Z<|zi Z Z<|zi Z Z<|zi Z Z<|z7 Z Z Z<|ar Z Z Z<|z6 ?_
        exact ⟨_,iS,aJ,aE,by simp_all[dH]<;>omega⟩
       ·refine z8 Z Z c10<|aq j8 Z Z7 Z Z<|z8 Z Z c10<|za (yw (j:=0) jw wz Z Z Z (by decide) Z)<|z8 Z Z c10<|ay j6 Z<|z8 Z Z c10<|ak Z Z<|z8 Z Z c9<|au Z c10 Z<|z8 Z Z c9<|ai Z<|zp (s:=134) Z (fun c11=>?_) (fun c11=>?_)
        ·refine z7 Z Z c11<|z7 Z Z c11<|z7 Z Z c11<|z7 Z Z c11<|z8 Z Z c9<|ar Z c11 Z<|z8 Z Z Z<|ar Z c9 Z<|au Z Z Z<|ai Z<|z7 Z Z Z<|z7 Z Z Z<|z7 Z Z Z<|z7 Z Z Z<|zi Z Z<|zi Z Z<|zi Z Z<|zi Z Z<|z7 Z Z Z<|ar Z Z Z<|z6 ?_
         exact ⟨_,iS,aJ,aE,by simp_all[dH]<;>omega⟩
        ·refine z8 Z Z c11<|aq j8 Z Z7 Z Z<|z8 Z Z c11<|za (yw (j:=1) jw wz Z Z Z (by decide) Z)<|z8 Z Z c11<|ay j6 Z<|z8 Z Z c11<|ak Z Z<|z8 Z Z c9<|au Z c11 Z<|z8 Z Z Z<|ar Z c9 Z<|au Z Z Z<|ai Z<|zp (s:=142) Z (fun c12=>?_) (fun c12=>?_)
         ·refine z7 Z Z c12<|z7 Z Z c12<|z7 Z Z c12<|z7 Z Z c12<|zi Z Z<|zi Z Z<|zi Z Z<|zi Z Z<|z7 Z Z c12<|ar Z c12 Z<|z6 ?_
          exact ⟨_,iS,aJ,aE,by simp_all[dH]<;>omega⟩
         ·refine z8 Z Z c12<|aq j8 Z Zv Z Z<|z8 Z Z c12<|ay Y3 Z<|z8 Z Z c12<|ak Z Z<|z8 Z Z c12<|ai Z<|zp (s:=146) Z (fun c13=>?_) (fun c13=>?_)
          ·refine z8 Z Z c13<|aq j8 Z Z7 Z Z<|z8 Z Z c13<|za (yw (j:=0) jw wz Z Z Z (by decide) Z)<|z8 Z Z c13<|ay j6 Z<|z8 Z Z c13<|ak Z Z<|z8 Z Z c12<|ar Z c13 Z<|au Z c12 Z<|z6 ?_
           exact ⟨_,iS,aJ,aE,by simp_all[dH]<;>omega⟩
          ·refine z7 Z Z c13<|z7 Z Z c13<|z7 Z Z c13<|z7 Z Z c13<|z8 Z Z c12<|au Z c13 Z<|au Z c12 Z<|z6 ?_
           exact ⟨_,iS,aJ,aE,by simp_all[dH]<;>omega⟩
      ·refine z7 Z Z c9<|z7 Z Z c9<|z7 Z Z c9<|z7 Z Z c9<|z7 Z Z c9<|z7 Z Z c9<|zi Z Z<|zi Z Z<|zi Z Z<|zi Z Z<|z7 Z Z c9<|z7 Z Z c9<|zi Z Z<|zi Z Z<|zi Z Z<|zi Z Z<|z7 Z Z c9<|z8 Z Z Z<|au Z c9 Z<|au Z Z Z<|ai Z<|z8 Z Z Z<|aq j8 Z Zv Z Z<|z8 Z Z Z<|ay Y3 Z<|z8 Z Z Z<|ak Z Z<|z8 Z Z Z<|ai Z<|zp (s:=146) Z (fun c14=>?_) (fun c14=>?_)
       ·refine z8 Z Z c14<|aq j8 Z Z7 Z Z<|z8 Z Z c14<|za (yw (j:=0) jw wz Z Z Z (by decide) Z)<|z8 Z Z c14<|ay j6 Z<|z8 Z Z c14<|ak Z Z<|z8 Z Z Z<|ar Z c14 Z<|au Z Z Z<|z6 ?_
        exact ⟨_,iS,aJ,aE,by simp_all[dH]<;>omega⟩
       ·refine z7 Z Z c14<|z7 Z Z c14<|z7 Z Z c14<|z7 Z Z c14<|z8 Z Z Z<|au Z c14 Z<|au Z Z Z<|z6 ?_
        exact ⟨_,iS,aJ,aE,by simp_all[dH]<;>omega⟩
    ·rintro u hu
     subst hu
     refine zu Z (fun ct=>?_) (fun ct=>?_)
     ·have dt:dH f b.term=false:=by simpa using ct
      refine ah<|ab Z<|z6<|zh<|zk (x:=.bool _) Z ?_
      rw[hbad (by unfold gt;rw[hjall,hkall,dt];rfl)]
     ·have dt:dH f b.term=true:=by simpa using ct
      refine zg<|aV<|aC Z Z<|aa Z<|z6 ?_
      exact ⟨i+1,dy,aJ,aE,⟨hi2,bt hi2 hall (by rw[hbi];unfold gt;rw[hjall,hkall,dt];rfl)⟩,by omega⟩
 ·have hin:i=f.blocks.length:=by simp at ci;omega
  rw[hin,qn] at hall
  refine y7<|ah<|ab Z<|z6<|zh<|zk (x:=.bool _) Z ?_
  rw[hall]
end Go.Proofs.YtdilpodccjlkgaaGreatDoor
namespace Go.Proofs.YtdilpodccjlkgaaGreatDoor
open Go.Proofs.Tryz
open Go.Proofs Go.Lib Go.Shelf Go.RowKit
set_option maxRecDepth 20000
variable {E:World}
theorem lI {α:Type} (g:α→Nat):∀(l:List α) (k:Nat),((l.take k).map g).sum≤(l.map g).sum
 |[],k=>by simp
 |x::l,0=>by simp
 |x::l,k+1=>by
  have:=lI g l k
  simp only[List.take_succ_cons,List.map_cons,List.sum_cons];omega
theorem Cc (l:List eJ) (k:Nat):wP (l.take k)≤wP l:=lI _ l k
theorem Cd (l:List aB) (k:Nat):wX (l.take k)≤wX l:=lI _ l k
theorem mf {f:ad} (h:jJ f) {k:Nat} (hk:k<f.blocks.length):wV f.vars+qS (f.blocks.take k)+wB f.blocks[k]≤4000:=by
 have h1:=h.2.2.2.2.2 (fun e=>by rw[e] at hk;exact absurd hk (Nat.not_lt_zero _))
 have h2:qS (f.blocks.take (k+1))≤qS f.blocks:=lI _ f.blocks (k+1)
 rw[sB hk] at h2
 omega
set_option maxHeartbeats 8000000 in
theorem tA (f:ad) (hf:pL f):aU prog E 8 [.agg (bD f)] [] (fun x _=>∃b:Bool,x=.bool b∧(b=true↔jJ f)):=by
 obtain ⟨hf1,hf2,hf3,hf4⟩:=hf
 have hl1:=hf1.lt
 have hl3:=hf3.lt
 refine zo func8 Z (by decide) Z<|ah<|ya (cs:=_) Z Z Z<|ab Z<|z6<|zd<|zd<|yg (γ:=Unit) [1] (fun u=>[(27,.bool (wI f))]) (fun u=>[]) (fun u=>True) ?_ (fun _ _ h=>h) ?_
 ·refine aV<|aq je Z Y5 Z Z<|aH Yg Z<|ap Z6 Z<|za (yx Z Z)<|ai Z<|zp (s:=16) Z (fun c1=>?_) (fun c1=>?_)
  ·refine z7 Z Z c1<|z7 Z Z c1<|z7 Z Z c1<|z7 Z Z c1<|ar Z c1 Z<|ai Z<|z7 Z Z Z<|z7 Z Z Z<|z7 Z Z Z<|z7 Z Z Z<|ar Z Z Z<|z6 ?_
   exact ⟨(),aJ,⟨jb (by simp_all[wI]<;>grind),trivial⟩,aE,trivial⟩
  ·refine z8 Z Z c1<|aq je Z Z0 Z Z<|z8 Z Z c1<|aH Zb Z<|z8 Z Z c1<|ap ji Z<|z8 Z Z c1<|za (yx Z Z)<|au Z c1 Z<|ai Z<|zp (s:=22) Z (fun c2=>?_) (fun c2=>?_)
   ·refine z7 Z Z c2<|z7 Z Z c2<|z7 Z Z c2<|z7 Z Z c2<|ar Z c2 Z<|z6 ?_
    exact ⟨(),aJ,⟨jb (by simp_all[wI]<;>grind),trivial⟩,aE,trivial⟩
   ·refine z8 Z Z c2<|aq je Z j5 Z Z<|z8 Z Z c2<|aH j9 Z<|z8 Z Z c2<|ap wx Z<|z8 Z Z c2<|za (yx Z Z)<|au Z c2 Z<|z6 ?_
    exact ⟨(),aJ,⟨jb (by simp_all[wI]<;>grind),trivial⟩,aE,trivial⟩
 ·rintro _ _
  refine zu Z (fun c1=>?_) (fun c1=>?_)
  ·refine ah<|ab Z<|z6<|zh<|zk (x:=.bool _) Z ?_
   exact ⟨_,rfl,fun h=>(by cases h),fun hl=>absurd hl (fun hl=>by have h1:=hl.1;have h2:=hl.2.1;have h3:=hl.2.2.1;unfold wI at c1;simp at c1;omega)⟩
  ·have hsz:f.vars.length≤100∧f.blocks.length≤40∧f.params.length≤20:=by unfold wI at c1;simp at c1;omega
   refine zg<|ah<|ao Z<|z6<|zd<|ah<|aq je Z Y5 Z Z<|aH Yg Z<|ap Z6 Z<|aa Z<|z6<|zj<|y8 (γ:=Nat) [1,29,30] (fun k=>[(31,.int .i64 k),(3,.int .i64 (wV (f.vars.take k)))]) (fun k=>[]) (fun k=>k≤f.vars.length∧wV (f.vars.take k)≤400*k∧∀v∈f.vars.take k,v.name.size≤400) (fun k=>f.vars.length - k) 0 eZ aE (⟨ql _,Nat.le_refl _,by simp⟩) ?_
   rintro k ⟨hk,hw,hv⟩
   refine ah<|aw Z Z<|z6<|zd<|zw Z (fun ck=>?_) (fun ck=>?_)
   ·have hk1:k<f.vars.length:=by omega
    have hs:=Br hk1
    refine zg<|zd<|zj<|ah<|za (q8 Z6 Y2 Z Z Z (qi (by omega)))<|ac isAgg61 Y2 Z Z<|y5 (cs:=[.str ⟨#[]⟩,.int .i64 0]) zeroValue61 Z Z<|fun i5=>zz Y2 Z Z Z Z Z Z .head Z<|z6<|zd<|ah<|za (zn Zf Z Zu (by decide) Z Z)<|za (zq (c:=.str _) Y0 Z ⟨_,.head⟩ Z)<|za (Gv.lenT Zi Z)<|za (yx Z Z)<|z6<|zw Z (fun cn=>?_) (fun cn=>?_)
    ·refine ah<|ab Z<|z6<|zh<|zk (x:=.bool _) Z ?_
     exact ⟨_,rfl,fun h=>(by cases h),fun hl=>absurd hl (fun hl=>by have h1:=hl.2.2.2.1 _ (qm hk1);omega)⟩
    ·refine zg<|aV<|aa Z<|za (zn Zf Z Zu (by decide) Z Z)<|za (zq (c:=.str _) Y0 Z ⟨_,.head⟩ Z)<|za (Gv.lenT Zi Z)<|aC Z Z<|ao Z<|z6<|aV<|aC Z Z<|aa Z<|z6 ?_
     exact ⟨k+1,dy,⟨rfl,congrArg (AV.int .i64) (by rw[hs];omega),trivial⟩,⟨_,(.drop (.refl _)),rfl⟩,⟨hk1,by omega,ee hk1 hv (by omega)⟩,by omega⟩
   ·obtain rfl:k=f.vars.length:=by omega
    rw[qn] at hw hv
    rw[qn]
    refine y7<|zd<|ah<|aq je Z Z0 Z Z<|aH Zb Z<|ap ji Z<|aa Z<|z6<|zj<|y8 (γ:=Nat) [46,47] (fun k=>[(48,.int .i64 k),(3,.int .i64 (wV f.vars+qS (f.blocks.take k):Nat))]) (fun k=>[]) (fun k=>k≤f.blocks.length∧(0<k→wV f.vars+qS (f.blocks.take k)≤4000)∧qS (f.blocks.take k)≤4000∧∀b∈f.blocks.take k,vB b) (fun k=>f.blocks.length - k) 0 eZ aE (⟨ql _,by omega,by simp[qS],by simp⟩) ?_
    rintro k ⟨hk,hw2,hw3,hb⟩
    refine ah<|aw Z Z<|z6<|zd<|zw Z (fun ck=>?_) (fun ck=>?_)
    ·have hk1:k<f.blocks.length:=by omega
     obtain ⟨hb1,hb2,hb3,hb4⟩:=hf4 _ (qm hk1)
     have hs:=sB hk1
     refine zg<|zd<|zj<|ah<|za (q8 ji ju Z Z Z (qi (by omega)))<|ac Y4 ju Z Z<|y5 (cs:=[.str ⟨#[]⟩,.raw (.slice none 0 0),.raw (.slice none 0 0),.int .i64 0,.int .i64 0,.int .i64 0,.int .i64 0]) Zc Z Z<|fun i7=>zz ju Z Z Z Z Z Z .head Z<|z6<|zd<|zd<|yg (γ:=Unit) [3,7,46,47,48] (fun u=>[(67,.bool (wJ f.blocks[k]))]) (fun u=>[(i7,.cells 51 (bN f.blocks[k]))]) (fun u=>True) ?_ (fun _ _ h=>h) ?_
     ·refine aV<|za (zn jg Z Zu (by decide) Z Z)<|za (zq (c:=.str _) Y0 Z ⟨_,.head⟩ Z)<|za (Gv.lenT Zi Z)<|za (yx Z Z)<|ai Z<|zp (s:=56) Z (fun c3=>?_) (fun c3=>?_)
      ·refine z7 Z Z c3<|z7 Z Z c3<|z7 Z Z c3<|z7 Z Z c3<|ar Z c3 Z<|ai Z<|z7 Z Z Z<|z7 Z Z Z<|z7 Z Z Z<|z7 Z Z Z<|ar Z Z Z<|z6 ?_
       exact ⟨(),wi,⟨jb (by simp_all[wJ]<;>grind),trivial⟩,aE,trivial⟩
      ·refine z8 Z Z c3<|za (zn jg Z Y9 (by decide) Z Z)<|z8 Z Z c3<|za (zq (c:=.fro _ _) Yj Z ⟨_,.head⟩ Z)<|z8 Z Z c3<|ap jz Z<|z8 Z Z c3<|za (yx Z Z)<|au Z c3 Z<|ai Z<|zp (s:=62) Z (fun c4=>?_) (fun c4=>?_)
       ·refine z7 Z Z c4<|z7 Z Z c4<|z7 Z Z c4<|z7 Z Z c4<|ar Z c4 Z<|z6 ?_
        exact ⟨(),wi,⟨jb (by simp_all[wJ]<;>grind),trivial⟩,aE,trivial⟩
       ·refine z8 Z Z c4<|za (zn jg Z Zd (by decide) Z Z)<|z8 Z Z c4<|za (zq (c:=.fro _ _) Zs Z ⟨_,.head⟩ Z)<|z8 Z Z c4<|ap jt Z<|z8 Z Z c4<|za (yx Z Z)<|au Z c4 Z<|z6 ?_
        exact ⟨(),wi,⟨jb (by simp_all[wJ]<;>grind),trivial⟩,aE,trivial⟩
     ·rintro _ _
      refine zu Z (fun c2=>?_) (fun c2=>?_)
      ·refine ah<|ab Z<|z6<|zh<|zk (x:=.bool _) Z ?_
       exact ⟨_,rfl,fun h=>(by cases h),fun hl=>absurd hl (fun hl=>by obtain ⟨h1,h2,h3,_⟩:=hl.2.2.2.2.1 _ (qm hk1);unfold wJ at c2;simp at c2;omega)⟩
      ·have hsb:f.blocks[k].name.size≤400∧f.blocks[k].phis.length≤400∧f.blocks[k].insts.length≤400:=by unfold wJ at c2;simp at c2;omega
       refine zg<|ah<|aa Z<|za (zn jg Z Zu (by decide) Z Z)<|za (zq (c:=.str _) Y0 Z ⟨_,.head⟩ Z)<|za (Gv.lenT Zi Z)<|za (zn jg Z Y9 (by decide) Z Z)<|za (zq (c:=.fro _ _) Yj Z ⟨_,.head⟩ Z)<|ap jz Z<|za (zn jg Z Zd (by decide) Z Z)<|za (zq (c:=.fro _ _) Zs Z ⟨_,.head⟩ Z)<|ap jt Z<|aC Z Z<|za (Gv.mul Z Z (by unfold oV;omega))<|aC Z Z<|aC Z Z<|ao Z<|z6<|zd<|ah<|za (zn jg Z Y9 (by decide) Z Z)<|za (zq (c:=.fro _ _) Yj Z ⟨_,.head⟩ Z)<|ap jz Z<|aa Z<|z6<|zj<|y8 (γ:=Nat) [7,46,47,48,83,84] (fun m=>[(85,.int .i64 m),(3,.int .i64 (wV f.vars+qS (f.blocks.take k)+(f.blocks[k].name.size+10*(f.blocks[k].phis.length+f.blocks[k].insts.length))+wP (f.blocks[k].phis.take m):Nat))]) (fun m=>[(i7,.cells 51 (bN f.blocks[k]))]) (fun m=>m≤f.blocks[k].phis.length∧wP (f.blocks[k].phis.take m)≤800*m∧∀p∈f.blocks[k].phis.take m,p.args.length≤400∧p.from_.length≤400) (fun m=>f.blocks[k].phis.length - m) 0 ⟨Z,(congrArg (AV.int .i64) (by simp[wP]<;>omega)),trivial⟩ aE (⟨ql _,by simp[wP],by simp⟩) ?_
       rintro m ⟨hm,hwp,hp⟩
       refine ah<|aw Z Z<|z6<|zd<|zw Z (fun cm=>?_) (fun cm=>?_)
       ·have hm1:m<f.blocks[k].phis.length:=by omega
        obtain ⟨hq1,hq2⟩:=hb3 _ (qm hm1)
        have hl6:=hq1.lt
        have hl7:=hq2.lt
        have hs2:=Bs hm1
        refine zg<|zd<|zj<|ah<|za (q8 jz Z8 Z Z Z (qi (by omega)))<|ac Yo Z8 Z Z<|y5 (cs:=[.int .i64 0,.raw (.slice none 0 0),.raw (.slice none 0 0)]) Y6 Z Z<|fun i9=>zz Z8 Z Z Z Z Z Z .head Z<|z6<|zd<|zd<|yg (γ:=Unit) [3,7,9,46,47,48,83,84,85] (fun u=>[(102,.bool (decide ((4000:Int)<(wV f.vars+qS (f.blocks.take k)+(f.blocks[k].name.size+10*(f.blocks[k].phis.length+f.blocks[k].insts.length))+wP (f.blocks[k].phis.take m):Nat))||(decide ((400:Int)<f.blocks[k].phis[m].args.length)||decide ((400:Int)<f.blocks[k].phis[m].from_.length))))]) (fun u=>[(i9,.cells 63 (d6 f.blocks[k].phis[m])),(i7,.cells 51 (bN f.blocks[k]))]) (fun u=>True) ?_ (fun _ _ h=>h) ?_
        ·refine aV<|aa Z<|za (yx Z Z)<|ai Z<|zp (s:=91) Z (fun c5=>?_) (fun c5=>?_)
         ·refine z7 Z Z c5<|z7 Z Z c5<|z7 Z Z c5<|z7 Z Z c5<|ar Z c5 Z<|ai Z<|z7 Z Z Z<|z7 Z Z Z<|z7 Z Z Z<|z7 Z Z Z<|ar Z Z Z<|z6 ?_
          exact ⟨(),qE,⟨jb (by simp_all<;>grind),trivial⟩,aE,trivial⟩
         ·refine z8 Z Z c5<|za (zn jx Z j5 (by decide) Z Z)<|z8 Z Z c5<|za (zq (c:=.fro _ _) j9 Z ⟨_,.head⟩ Z)<|z8 Z Z c5<|ap wx Z<|z8 Z Z c5<|za (yx Z Z)<|au Z c5 Z<|ai Z<|zp (s:=97) Z (fun c6=>?_) (fun c6=>?_)
          ·refine z7 Z Z c6<|z7 Z Z c6<|z7 Z Z c6<|z7 Z Z c6<|ar Z c6 Z<|z6 ?_
           exact ⟨(),qE,⟨jb (by simp_all<;>grind),trivial⟩,aE,trivial⟩
          ·refine z8 Z Z c6<|za (zn jx Z j5 (by decide) Z Z)<|z8 Z Z c6<|za (zq (c:=.fro _ _) j9 Z ⟨_,.head⟩ Z)<|z8 Z Z c6<|ap wx Z<|z8 Z Z c6<|za (yx Z Z)<|au Z c6 Z<|z6 ?_
           exact ⟨(),qE,⟨jb (by simp_all<;>grind),trivial⟩,aE,trivial⟩
        ·rintro _ _
         refine zu Z (fun cp=>?_) (fun cp=>?_)
         ·refine ah<|ab Z<|z6<|zh<|zk (x:=.bool _) Z ?_
          exact ⟨_,rfl,fun h=>(by cases h),fun hl=>absurd hl (fun hl=>by obtain ⟨_,_,_,h4,_⟩:=hl.2.2.2.2.1 _ (qm hk1);have h5:=h4 _ (qm hm1);have h9:=mf hl hk1;have hwb:wB f.blocks[k]=f.blocks[k].name.size+10*(f.blocks[k].phis.length+f.blocks[k].insts.length)+wP f.blocks[k].phis+wX f.blocks[k].insts:=rfl;have h10:=Cc f.blocks[k].phis m;simp only[Bool.or_eq_true,w1] at cp;omega)⟩
         ·rcases Bool.or_eq_false_iff.1 cp with ⟨a1,a2⟩
          rcases Bool.or_eq_false_iff.1 a2 with ⟨a3,a4⟩
          have a3:=of_decide_eq_false a3
          have a4:=of_decide_eq_false a4
          refine zg<|aV<|aa Z<|za (zn jx Z j5 (by decide) Z Z)<|za (zq (c:=.fro _ _) j9 Z ⟨_,.head⟩ Z)<|ap wx Z<|za (zn jx Z j5 (by decide) Z Z)<|za (zq (c:=.fro _ _) j9 Z ⟨_,.head⟩ Z)<|ap wx Z<|aC Z Z<|aC Z Z<|ao Z<|z6<|aV<|aC Z Z<|aa Z<|z6 ?_
          exact ⟨m+1,AP,⟨rfl,congrArg (AV.int .i64) (by rw[hs2];omega),trivial⟩,⟨_,(.drop (.refl _)),rfl⟩,⟨hm1,by omega,ee hm1 hp ⟨by omega,by omega⟩⟩,by omega⟩
       ·obtain rfl:m=f.blocks[k].phis.length:=by omega
        rw[qn] at hwp hp
        rw[qn]
        refine y7<|zd<|ah<|za (zn jg Z Zd (by decide) Z Z)<|za (zq (c:=.fro _ _) Zs Z ⟨_,.head⟩ Z)<|ap jt Z<|aa Z<|z6<|zj<|y8 (γ:=Nat) [46,47,48,114,115] (fun m=>[(116,.int .i64 m),(3,.int .i64 (wV f.vars+qS (f.blocks.take k)+(f.blocks[k].name.size+10*(f.blocks[k].phis.length+f.blocks[k].insts.length))+wP f.blocks[k].phis+wX (f.blocks[k].insts.take m):Nat))]) (fun m=>[(i7,.cells 51 (bN f.blocks[k]))]) (fun m=>m≤f.blocks[k].insts.length∧wX (f.blocks[k].insts.take m)≤400*m∧∀p∈f.blocks[k].insts.take m,p.args.length≤400) (fun m=>f.blocks[k].insts.length - m) 0 ⟨Z,(congrArg (AV.int .i64) (by simp[wX]<;>omega)),trivial⟩ aE (⟨ql _,by simp[wX],by simp⟩) ?_
        rintro m ⟨hm,hwx,hx⟩
        refine ah<|aw Z Z<|z6<|zd<|zw Z (fun cm=>?_) (fun cm=>?_)
        ·have hm1:m<f.blocks[k].insts.length:=by omega
         have hq1:=hb4 _ (qm hm1)
         have hl6:=hq1.lt
         have hs2:=Bt hm1
         refine zg<|zd<|zj<|ah<|za (q8 jt jk Z Z Z (qi (by omega)))<|ac Zn jk Z Z<|y5 (cs:=[.int .i64 0,.int .i64 0,.raw (.slice none 0 0),.int .i64 0]) Z5 Z Z<|fun i11=>zz jk Z Z Z Z Z Z .head Z<|z6<|zd<|zd<|yg (γ:=Unit) [3,11,46,47,48,114,115,116] (fun u=>[(127,.bool (decide ((4000:Int)<(wV f.vars+qS (f.blocks.take k)+(f.blocks[k].name.size+10*(f.blocks[k].phis.length+f.blocks[k].insts.length))+wP f.blocks[k].phis+wX (f.blocks[k].insts.take m):Nat))||decide ((400:Int)<f.blocks[k].insts[m].args.length)))]) (fun u=>[(i11,.cells 54 (be f.blocks[k].insts[m])),(i7,.cells 51 (bN f.blocks[k]))]) (fun u=>True) ?_ (fun _ _ h=>h) ?_
         ·refine aV<|aa Z<|za (yx Z Z)<|ai Z<|zp (s:=122) Z (fun c7=>?_) (fun c7=>?_)
          ·refine z7 Z Z c7<|z7 Z Z c7<|z7 Z Z c7<|z7 Z Z c7<|ar Z c7 Z<|z6 ?_
           exact ⟨(),vh,⟨jb (by simp_all<;>grind),trivial⟩,aE,trivial⟩
          ·refine z8 Z Z c7<|za (zn wy Z j5 (by decide) Z Z)<|z8 Z Z c7<|za (zq (c:=.fro _ _) j9 Z ⟨_,.head⟩ Z)<|z8 Z Z c7<|ap wx Z<|z8 Z Z c7<|za (yx Z Z)<|au Z c7 Z<|z6 ?_
           exact ⟨(),vh,⟨jb (by simp_all<;>grind),trivial⟩,aE,trivial⟩
         ·rintro _ _
          refine zu Z (fun cp=>?_) (fun cp=>?_)
          ·refine ah<|ab Z<|z6<|zh<|zk (x:=.bool _) Z ?_
           exact ⟨_,rfl,fun h=>(by cases h),fun hl=>absurd hl (fun hl=>by obtain ⟨_,_,_,_,h4⟩:=hl.2.2.2.2.1 _ (qm hk1);have h5:=h4 _ (qm hm1);have h9:=mf hl hk1;have hwb:wB f.blocks[k]=f.blocks[k].name.size+10*(f.blocks[k].phis.length+f.blocks[k].insts.length)+wP f.blocks[k].phis+wX f.blocks[k].insts:=rfl;have h10:=Cd f.blocks[k].insts m;simp only[Bool.or_eq_true,w1] at cp;omega)⟩
          ·rcases Bool.or_eq_false_iff.1 cp with ⟨a1,a2⟩
           have a2:=of_decide_eq_false a2
           refine zg<|aV<|aa Z<|za (zn wy Z j5 (by decide) Z Z)<|za (zq (c:=.fro _ _) j9 Z ⟨_,.head⟩ Z)<|ap wx Z<|aC Z Z<|ao Z<|z6<|aV<|aC Z Z<|aa Z<|z6 ?_
           exact ⟨m+1,wi,⟨rfl,congrArg (AV.int .i64) (by rw[hs2];omega),trivial⟩,⟨_,(.drop (.refl _)),rfl⟩,⟨hm1,by omega,ee hm1 hx (by omega)⟩,by omega⟩
        ·obtain rfl:m=f.blocks[k].insts.length:=by omega
         rw[qn] at hwx hx
         rw[qn]
         refine y7<|ah<|aa Z<|za (yx Z Z)<|z6<|zw Z (fun cz=>?_) (fun cz=>?_)
         ·refine ah<|ab Z<|z6<|zh<|zk (x:=.bool _) Z ?_
          exact ⟨_,rfl,fun h=>(by cases h),fun hl=>absurd hl (fun hl=>by have h9:=mf hl hk1;have hwb:wB f.blocks[k]=f.blocks[k].name.size+10*(f.blocks[k].phis.length+f.blocks[k].insts.length)+wP f.blocks[k].phis+wX f.blocks[k].insts:=rfl;omega)⟩
         ·have hwb:wB f.blocks[k]=f.blocks[k].name.size+10*(f.blocks[k].phis.length+f.blocks[k].insts.length)+wP f.blocks[k].phis+wX f.blocks[k].insts:=rfl
          refine zg<|aV<|aC Z Z<|aa Z<|z6 ?_
          exact ⟨k+1,eZ,⟨rfl,congrArg (AV.int .i64) (by rw[hs];omega),trivial⟩,⟨_,(.drop (.refl _)),rfl⟩,⟨hk1,by omega,by omega,ee hk1 hb ⟨hsb.1,hsb.2.1,hsb.2.2,hp,hx⟩⟩,by omega⟩
    ·obtain rfl:k=f.blocks.length:=by omega
     rw[qn] at hw2 hw3 hb
     refine y7<|ah<|ab Z<|z6<|zh<|zk (x:=.bool _) Z ?_
     exact ⟨_,rfl,fun _=>⟨hsz.1,hsz.2.1,hsz.2.2,hv,hb,fun hne=>hw2 (List.length_pos_iff.2 hne)⟩,fun _=>rfl⟩
theorem mY (f:ad) (hf:qK f) (hn:lw f) (hL:bn E):aI prog E 76 [.agg (bD f)] (.bool (decide (bz f))):=by
 refine zo func76 Z (by decide) Z<|ah<|ya (cs:=_) Z Z Z<|ab Z<|z6<|ah<|ac jj jh Z Z<|zf (nU _ (by assumption) (by assumption) hL) Z<|ab Z<|z6<|zh<|zk (x:=.bool _) Z ?_
 rfl
noncomputable def AD (f:ad):Bool:=@decide (jJ f) (Classical.propDecidable _)
theorem jV (f:ad):AD f=true↔jJ f:=by unfold AD;exact @decide_eq_true_iff _ (Classical.propDecidable _)
theorem xx (f:ad) (hf:pL f):aI prog E 8 [.agg (bD f)] (.bool (AD f)):=
 (tA f hf).mono fun x O' ⟨b,e,h⟩=>by
  rw[e]
  congr 1
  rw[qr,h,jV]
theorem pi (f:ad) (hE:bE f) (hf:small f) (hS:bz f):aI prog E 21 [.agg (bD f)] (.bool (fc f&&g9 f)):=by
 have hn:=hf.2.2.1
 refine zo func21 Z (by decide) Z<|ah<|ya (cs:=_) Z Z Z<|ab Z<|z6<|zd<|ah<|aq je Z Z0 Z Z<|aH Zb Z<|ap ji Z<|aa Z<|z6<|zj<|y8 (γ:=Nat) [1,8,9] (fun i=>[(10,.int .i64 i)]) (fun i=>[]) (fun i=>i≤f.blocks.length∧(f.blocks.take i).all (fun b=>!(b.insts.any fun x=>decide (x.op=25)||decide (x.op=26)))=true) (fun i=>f.blocks.length - i) 0 aJ aE (⟨ql _,Z⟩) ?_
 rintro i ⟨hi,hall⟩
 refine ah<|aw Z Z<|z6<|zd<|zw Z (fun ci=>?_) (fun ci=>?_)
 ·have hi2:i<f.blocks.length:=by simp at ci;omega
  obtain ⟨b,hbi⟩:∃b,f.blocks[i]=b:=⟨_,rfl⟩
  have hget:f.blocks[i]?=some b:=by rw[qi hi2,hbi]
  have hmem:b∈f.blocks:=hbi▸qm hi2
  obtain ⟨hb0,hb1,hb2,hb3,hb4⟩:=hf.2.2.2.2 b hmem
  obtain ⟨hPh,hIn,hTm⟩:=hS.2.2.2.2.2 b hmem
  refine zg<|zd<|zj<|ah<|za (bx i ji ju Z Z Z hget)<|ac Y4 ju Z Z<|y5 (cs:=[.str ⟨#[]⟩,.raw (.slice none 0 0),.raw (.slice none 0 0),.int .i64 0,.int .i64 0,.int .i64 0,.int .i64 0]) Zc Z Z<|fun i4=>zz ju Z Z Z Z Z Z .head Z<|ze (yd (t:=4) Z .head)<|z6<|ah<|aq jg Z Zd Z Z<|aH Zs Z<|ap jt Z<|aa Z<|z6<|zj<|y8 (γ:=Nat) [1,8,9,10,15,16] (fun k=>[(17,.int .i64 k)]) (fun k=>[]) (fun k=>k≤b.insts.length∧(b.insts.take k).all (fun x=>!(decide (x.op=25)||decide (x.op=26)))=true) (fun k=>b.insts.length - k) 0 aJ aE (⟨ql _,Z⟩) ?_
  rintro k ⟨hk,hkall⟩
  refine ah<|aw Z Z<|z6<|zd<|zw Z (fun ck=>?_) (fun ck=>?_)
  ·have hk2:k<b.insts.length:=by simp at ck;omega
   have hI:=(fK (hIn _ (qm hk2))).op
   refine zg<|zd<|zj<|ah<|za (bx k jt jk Z Z Z (qi hk2))<|ac Zn jk Z Z<|y5 (cs:=[.int .i64 0,.int .i64 0,.raw (.slice none 0 0),.int .i64 0]) Z5 Z Z<|fun i6=>zz jk Z Z Z Z Z Z .head Z<|ze (yd (t:=6) Z .head)<|z6<|ah<|aq wy Z jv Z Z<|ay jy Z<|za (q3 Z Z)<|z6<|zw Z (fun cq=>?_) (fun cq=>?_)
   ·have hbad:(b.insts.any fun x=>decide (x.op=25)||decide (x.op=26))=true:=List.any_eq_true.2 ⟨_,qm hk2,by simp;omega⟩
    refine ah<|ab Z<|z6<|zh<|zk (x:=.bool _) Z ?_
    rw[show fc f=false from Bool.eq_false_iff.2 (cG hi2 (by rw[hbi,hbad];rfl))];rfl
   ·refine zg<|aV<|aC Z Z<|aa Z<|z6 ?_
    exact ⟨k+1,AP,aJ,aE,⟨hk2,bt hk2 hkall (by simp;omega)⟩,by omega⟩
  ·have hkn:k=b.insts.length:=by simp at ck;omega
   rw[hkn,qn] at hkall
   have hgood:(b.insts.any fun x=>decide (x.op=25)||decide (x.op=26))=false:=List.any_eq_false.2 fun x hx=>by have:=List.all_eq_true.1 hkall x hx;simpa using this
   refine y7<|aV<|aC Z Z<|aa Z<|z6 ?_
   exact ⟨i+1,dy,aJ,aE,⟨hi2,bt hi2 hall (by rw[hbi,hgood];rfl)⟩,by omega⟩
 ·have hin:i=f.blocks.length:=by simp at ci;omega
  rw[hin,qn] at hall
  refine y7<|ah<|ac jj jh Z Z<|zf (oF f hE hf hS) Z<|ab Z<|z6<|zh<|zk (x:=.bool _) Z ?_
  rw[show fc f=true from hall];rfl
theorem oI (f:ad) (hf:small f) (hL:bn E):aI prog E 39 [.agg (bD f)] (.bool (bc f)):=by
 have hs:=mY (E:=E) f hf.ok hf.names hL
 refine zo func39 Z (by decide) Z<|ah<|ya (cs:=_) Z Z Z<|ab Z<|z6<|ah<|ac jj jh Z Z<|zf (hs) Z ?_
 by_cases g4:bz f
 ·refine ai Z<|z8 Z Z (qv g4)<|ac jj jh Z Z<|z8 Z Z (qv g4)<|zf (ph f hf g4) Z<|za (rR Z (qv g4) Z)<|ab Z<|z6<|zh<|zk (x:=.bool _) Z ?_
  exact jb (by unfold bc;rw[fB,qv g4];rfl)
 ·refine ai Z<|z7 Z Z (qw g4)<|z7 Z Z (qw g4)<|za (qD Z (qw g4) Z)<|ab Z<|z6<|zh<|zk (x:=.bool _) Z ?_
  exact jb (by unfold bc;rw[fB,qw g4];rfl)
theorem pj (f:ad) (hw:pL f) (hL:bn E):aI prog E 20 [.agg (bD f)] (.bool (AD f&&bc f)):=by
 refine zo func20 Z (by decide) Z<|ah<|ya (cs:=_) Z Z Z<|ab Z<|z6<|ah<|ac jj jh Z Z<|zf (xx f hw) Z<|ai Z<|zp (s:=5) Z (fun g=>?_) (fun g=>?_)
 ·refine z8 Z Z g<|ac jj jh Z Z<|z8 Z Z g<|zf (oI f ((jV f).1 g).small hL) Z<|ar Z g Z<|ab Z<|z6<|zh<|zk (x:=.bool _) Z ?_
  exact jb (by rw[g];rfl)
 ·refine z7 Z Z g<|z7 Z Z g<|au Z g Z<|ab Z<|z6<|zh<|zk (x:=.bool _) Z ?_
  exact jb (by rw[g];rfl)
noncomputable def fS (f:ad):Bool:=AD f&&bc f&&(cQ f&&fc f)
theorem AE {a b:Bool} (h:(a&&b)=true):a=true∧b=true:=by simpa using h
theorem tB {f:ad} (h:bc f=true):g9 f=cQ f:=
 zR (cR h) fun b hb p hp c hc=>by
  have h1:=((dT h).2.2.2.2.2 b hb).1 p hp
  have h2:=List.all_eq_true.1 h1.2.2.2.2 c hc
  simpa [dV] using h2
theorem pk (f:ad) (hw:pL f) (hL:bn E):aI prog E 10 [.agg (bD f)] (.bool (fS f)):=by
 refine zo func10 Z (by decide) Z<|ah<|ya (cs:=_) Z Z Z<|ab Z<|z6<|ah<|ac jj jh Z Z<|zf (pj f hw hL) Z<|ai Z<|zp (s:=5) Z (fun g=>?_) (fun g=>?_)
 ·refine z8 Z Z g<|ac jj jh Z Z<|z8 Z Z g<|zf (pi f (cR (AE g).2) ((jV f).1 (AE g).1).small (dT (AE g).2)) Z<|ar Z g Z<|ab Z<|z6<|zh<|zk (x:=.bool _) Z ?_
  exact jb (by unfold fS;rw[g,tB (AE g).2,Bool.and_comm];rfl)
 ·refine z7 Z Z g<|z7 Z Z g<|au Z g Z<|ab Z<|z6<|zh<|zk (x:=.bool _) Z ?_
  exact jb (by unfold fS;rw[g];rfl)
end Go.Proofs.YtdilpodccjlkgaaGreatDoor
namespace Go.Proofs.YtdilpodccjlkgaaGreatDoor
open Go.Proofs.Tryz
end Go.Proofs.YtdilpodccjlkgaaGreatDoor
