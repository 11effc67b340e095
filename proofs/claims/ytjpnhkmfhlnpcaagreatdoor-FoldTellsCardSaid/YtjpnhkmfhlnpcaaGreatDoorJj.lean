/- The first check of a block, how it comes from another one, whether it was passed: the program's. Of programs that are little. -/
import Derived.Test.YtjpnhkmfhlnpcaaGreatDoorJi
import Derived.Test.YtjpnhkmfhlnpcaaGreatDoorJg
import Derived.Test.YtjpnhkmfhlnpcaaGreatDoorJh
set_option linter.unusedVariables false
set_option linter.unusedSimpArgs false
set_option linter.unusedSectionVars false
namespace Go.Proofs.YtjpnhkmfhlnpcaaGreatDoor
section
open Go.Proofs.Tryz
open Go.Proofs Go.Lib Go.Shelf Go.RowKit
variable {E:World}
set_option maxRecDepth 20000
theorem xU {f:ae} {x:bB} {m:Nat} (e:x.op=1) (h:m<(er f x).length):(er f x)[m]=aY f x.dst:=by
 have h2:(er f x)[m]?=some (aY f x.dst):=by
  unfold er at h ⊢
  rw[if_pos e] at h ⊢
  simp at h
  subst h;rfl
 rw[q2 h] at h2
 exact Option.some.inj h2
theorem xV {f:ae} {x:bB} {m:Nat} (e:¬x.op=1) (h:m<(er f x).length) (h':m<(bd x.op).length):(er f x)[m]=(bd x.op)[m]:=by
 have h2:(er f x)[m]?=some ((bd x.op)[m]):=by
  unfold er
  rw[if_neg e,q2 h']
 rw[q2 h] at h2
 exact Option.some.inj h2
theorem wr {f:ae} {t:b9} (h:bb f t=true):t.kind=0∨t.kind=1∨t.kind=2:=by
 unfold bb at h
 by_cases h0:t.kind=0
 ·exact .inl h0
 ·rw[if_neg h0] at h
  by_cases h1:t.kind=1
  ·exact .inr (.inl h1)
  ·rw[if_neg h1] at h
   by_cases h2:t.kind=2
   ·exact .inr (.inr h2)
   ·rw[if_neg h2] at h;cases h
set_option maxHeartbeats 8000000 in
theorem mV (f:ae) (hf:small f) (hS:bw f):aT prog E 28 [.agg (bC f)] (.bool (f.blocks.all (ef f))):=by
 have hn:=hf.2.2.1
 refine zo func28 Z (by decide) Z<|ai<|y9 (cs:=_) Z Z Z<|ad Z<|z7<|zb<|ai<|ap j6 Z ji Z Z<|aP js Z<|ac ja Z<|aa Z<|z7<|zh<|y7 (γ:=Nat) [1,16,17] (fun i=>[(18,.int .i64 i)]) (fun i=>[]) (fun i=>i≤f.blocks.length∧(f.blocks.take i).all (ef f)=true) (fun i=>f.blocks.length - i) 0 aV aU (⟨q5 _,Z⟩) ?_
 rintro i ⟨hi,hall⟩
 refine ai<|ay Z Z<|z7<|zb<|zt Z (fun ci=>?_) (fun ci=>?_)
 ·have hi2:i<f.blocks.length:=by simp at ci;omega
  obtain ⟨b,hbi⟩:∃b,f.blocks[i]=b:=⟨_,rfl⟩
  have hget:f.blocks[i]?=some b:=by rw[q2 hi2,hbi]
  have hmem:b∈f.blocks:=hbi▸q6 hi2
  obtain ⟨hb0,hb1,hb2,hb3,hb4⟩:=hf.2.2.2.2 b hmem
  obtain ⟨hPh,hIn,hTm⟩:=hS.2.2.2.2.2 b hmem
  have hbad:ef f b=false→f.blocks.all (ef f)=false:=fun h=>Bool.eq_false_iff.2 (dM hi2 (by rw[hbi];exact h))
  refine zf<|zb<|zh<|ai<|za (dG i ja jj Z Z Z hget)<|ab Z7 jj Z Z<|zp (cs:=[.str ⟨#[]⟩,.raw (.slice none 0 0),.raw (.slice none 0 0),.int .i64 0,.int .i64 0,.int .i64 0,.int .i64 0]) ju Z Z<|fun i4=>zm jj Z Z Z Z Z Z .head Z<|zx (yp (t:=4) Z .head)<|z7<|zb<|ai<|ap j5 Z jw Z Z<|aP Z8 Z<|ac jl Z<|aa Z<|z7<|zh<|y7 (γ:=Nat) [1,4,16,17,18,23,24] (fun j=>[(25,.int .i64 j)]) (fun j=>[]) (fun j=>j≤b.phis.length∧(b.phis.take j).all (kM f)=true) (fun j=>b.phis.length - j) 0 aV aU (⟨q5 _,Z⟩) ?_
  rintro j ⟨hj,hjall⟩
  refine ai<|ay Z Z<|z7<|zb<|zt Z (fun cj=>?_) (fun cj=>?_)
  ·have hj2:j<b.phis.length:=by simp at cj;omega
   obtain ⟨p,hp⟩:∃p,b.phis[j]=p:=⟨_,rfl⟩
   have hpm:p∈b.phis:=hp▸q6 hj2
   obtain ⟨hpd,hpl,hpn,hpa,hpf⟩:=hPh p hpm
   have hpb:=(hb3 p hpm).1
   refine zf<|zb<|zh<|ai<|za (dG j jl jp Z Z Z (by rw[q2 hj2,hp])) ?_
   refine ab Zf jp Z Z<|zp (cs:=[.int .i64 0,.raw (.slice none 0 0),.raw (.slice none 0 0)]) jz Z Z<|fun i6=>zm jp Z Z Z Z Z Z .head Z<|zx (yp (t:=6) Z .head)<|z7<|ai<|ap jc Z je Z Z<|aP jm Z<|ac j4 Z<|aa Z<|z7<|zh<|y7 (γ:=Nat) [1,4,6,16,17,18,23,24,25,30,31] (fun k=>[(32,.int .i64 k)]) (fun k=>[]) (fun k=>k≤p.args.length∧(p.args.take k).all (fun v=>decide (aY f v=aY f p.dst))=true) (fun k=>p.args.length - k) 0 aV aU (⟨q5 _,Z⟩) ?_
   rintro k ⟨hk,hkall⟩
   refine ai<|ay Z Z<|z7<|zb<|zt Z (fun ck=>?_) (fun ck=>?_)
   ·have hk2:k<p.args.length:=by simp at ck;omega
    obtain ⟨v,hv⟩:∃v,p.args[k]=v:=⟨_,rfl⟩
    have hvv:=List.all_eq_true.1 hpa v (hv▸q6 hk2)
    refine zf<|zb<|zh<|ai<|za (dG k j4 j9 Z Z Z (by rw[q2 hk2,hv])) ?_
    refine aF jf Z<|aw Z<|z7<|zb<|ya (fun j=>false) (by kernel_rfl) Z (yh (.rest _))<|aN 0 Z (yo jh j8 Z Z)<|aN 1 Z (kq Z)<|aN 3 Z (yo jh j8 Z Z)<|aN 4 Z (f9 jc Z j9 Z Z)<|aN 5 Z (mK jf Z)<|cP 2 Z<|ze (dN f v hvv) Z<|z7<|cP 6 Z<|ze (dN f p.dst hpd) Z<|z7<|aN 7 Z (Gv.neqI Z Z)<|kV<|zu Z (fun cq=>?_) (fun cq=>?_)
    ·have hq:¬aY f v=aY f p.dst:=by simpa using cq
     have hph:kM f p=false:=by
      unfold kM
      rw[show (p.args.any fun v=>!decide (aY f v=aY f p.dst))=true from List.any_eq_true.2 ⟨v,hv▸q6 hk2,by simp[hq]⟩];rfl
     refine ai<|ad Z<|z7<|zg<|zi (x:=.bool _) Z ?_
     rw[hbad (by unfold ef;rw[show b.phis.all (kM f)=false from Bool.eq_false_iff.2 (dM hj2 (by rw[hp];exact hph))];rfl)]
    ·have hq:aY f v=aY f p.dst:=by simpa using cq
     refine zf<|bg<|aB Z Z<|aa Z<|z7 ?_
     exact ⟨k+1,⟨rfl,rfl,rfl,rfl,rfl,rfl,rfl,rfl,rfl,rfl,rfl,trivial⟩,aV,aU,⟨hk2,bX hk2 hkall (by rw[hv];simp[hq])⟩,by omega⟩
   ·have hkn:k=p.args.length:=by simp at ck;omega
    rw[hkn,q7] at hkall
    have hph:kM f p=true:=by
     unfold kM
     rw[show (p.args.any fun v=>!decide (aY f v=aY f p.dst))=false from List.any_eq_false.2 fun v hv=>by have:=List.all_eq_true.1 hkall v hv;simpa using this];rfl
    refine zy<|bg<|aB Z Z<|aa Z<|z7 ?_
    exact ⟨j+1,gY,aV,aU,⟨hj2,bX hj2 hjall (by rw[hp];exact hph)⟩,by omega⟩
  ·have hjn:j=b.phis.length:=by simp at cj;omega
   subst hjn
   rw[q7] at hjall
   refine zy<|zb<|ai<|ap j5 Z Z0 Z Z<|aP Ze Z<|ac jo Z<|aa Z<|z7<|zh<|y7 (γ:=Nat) [1,4,16,17,18,47,48] (fun k=>[(49,.int .i64 k)]) (fun k=>[]) (fun k=>k≤b.insts.length∧(b.insts.take k).all (fw f)=true) (fun k=>b.insts.length - k) 0 aV aU (⟨q5 _,Z⟩) ?_
   rintro k ⟨hk,hkall⟩
   refine ai<|ay Z Z<|z7<|zb<|zt Z (fun ck=>?_) (fun ck=>?_)
   ·have hk2:k<b.insts.length:=by simp at ck;omega
    obtain ⟨z,hz⟩:∃z,b.insts[k]=z:=⟨_,rfl⟩
    have hzm:z∈b.insts:=hz▸q6 hk2
    have hI:=nU (hIn z hzm)
    have hzl:=hb4 z hzm
    have hwl:=wq hI
    have hdst:cK z.op=true→bf f z.dst=true:=fun h=>by
     rcases hI.dst with ⟨d1,_⟩|⟨_,_,d3⟩
     ·rw[h] at d1;cases d1
     ·exact d3
    have hcopy:z.op=1→cK z.op=true:=fun h=>by rw[h];rfl
    have hib:fw f z=false→f.blocks.all (ef f)=false:=fun h=>hbad (by unfold ef;rw[hjall,show b.insts.all (fw f)=false from Bool.eq_false_iff.2 (dM hk2 (by rw[hz];exact h))];rfl)
    refine zf<|zb<|zh<|ai<|za (dG k jo jt Z Z Z (by rw[q2 hk2,hz])) ?_
    refine ab Zm jt Z Z<|zp (cs:=[.int .i64 0,.int .i64 0,.raw (.slice none 0 0),.int .i64 0]) Zg Z Z<|fun i10=>zm jt Z Z Z Z Z Z .head Z<|zx (yp (t:=10) Z .head)<|z7<|zb<|yn (γ:=Nat) [1,4,10,16,17,18,47,48,49] (fun g=>[(11,.po g 0)]) (fun g=>[(g,.cells 97 (mS (bv z.op)))]) (fun g=>True) ?_ (fun _ _ h=>h) ?_
    ·refine ya (fun j=>false) (by kernel_rfl) Z (yh (.rest _))<|aN 1 Z (f9 jd Z Zd Z Z)<|aN 2 Z (mK Zj Z)<|yv (i:=0) (j:=5) Z Z (by kernel_rfl) ?_ ?_
     ·refine ze (gN) Z<|z7<|aN 3 Z (dG z.op.toNat underlying98 Zk Z Z (by have:=hI.op;omega) (pB hI.op))<|aN 4 Z (yo isAgg97 Zk Z Z)<|cP 5 Z<|zp (cs:=[.str ⟨#[]⟩,.str ⟨#[]⟩,.str ⟨#[]⟩]) zeroValue97 Z Z<|fun i11=>z7<|cP 6 Z<|zm Zk Z Z Z Z Z Z .head Z<|z7<|kV ?_
      exact ⟨i11,ne,aV,aU,trivial⟩
     ·refine zp (cs:=[.str ⟨#[]⟩,.str ⟨#[]⟩,.str ⟨#[]⟩]) zeroValue97 Z Z<|fun i11=>z7<|cP 0 Z<|ze (gN) Z<|z7<|aN 3 Z (dG z.op.toNat underlying98 Zk Z Z (by have:=hI.op;omega) (pB hI.op))<|aN 4 Z (yo isAgg97 Zk Z Z)<|cP 6 Z<|zm Zk Z Z Z Z Z Z .head Z<|z7<|kV ?_
      exact ⟨i11,ne,aV,aU,trivial⟩
    ·rintro i11 _
     refine zb<|ai<|ap jd Z je Z Z<|aP jm Z<|ac j4 Z<|aa Z<|z7<|zh<|y7 (γ:=Nat) [1,4,10,11,16,17,18,47,48,49,60] (fun m=>[(61,.int .i64 m)]) (fun m=>[(i11,.cells 97 (mS (bv z.op)))]) (fun m=>m≤z.args.length∧(z.args.take m).map (aY f)=(er f z).take m) (fun m=>z.args.length - m) 0 aV aU (⟨q5 _,by simp⟩) ?_
     rintro m ⟨hm,hmall⟩
     refine ai<|ay Z Z<|z7<|zb<|zt Z (fun cm=>?_) (fun cm=>?_)
     ·have hm2:m<z.args.length:=by simp at cm;omega
      have hmw:m<(er f z).length:=by omega
      have hmt:m<(bd z.op).length:=by have:=hI.len;omega
      obtain ⟨v,hv⟩:∃v,z.args[m]=v:=⟨_,rfl⟩
      have hvv:=hI.args v (hv▸q6 hm2)
      obtain ⟨c,hc,hct⟩:=qZ hmt
      have hbadm:¬aY f v=(er f z)[m]→f.blocks.all (ef f)=false:=fun h=>hib (by rw[mc hI,qf (xr hm2 hmw (by rw[hv];exact h))];rfl)
      refine zf<|zb<|zh<|ai<|aa Z<|aw Z<|z7<|ai<|za (zd Z5 Z jy (by decide) Z Z)<|za (zj (c:=.str _) Z1 Z ⟨_,.head⟩ Z)<|aa Z<|za (Gv.indexT (j:=m) jv Z Z Z hc)<|ze (mb (c.toNat:Int)) Z<|aw Z<|z7<|zb<|ai<|za (zd Z5 Z jy (by decide) Z Z)<|za (zj (c:=.str _) Z1 Z ⟨_,.head⟩ Z)<|za (Gv.eqlT Z Z)<|z7<|zu Z (fun cw=>?_) (fun cw=>?_)
      ·have ew:z.op=1:=(k7 hI.op).1 (by simpa using cw)
       refine bg<|ab jh j8 Z Z<|ap jd Z j9 Z Z<|aF jf Z<|ze (dN f z.dst (hdst (hcopy ew))) Z<|aw Z<|z7<|zb<|ya (fun j=>false) (by kernel_rfl) Z (yh (.rest _))<|aN 0 Z (yo jh j8 Z Z)<|aN 1 Z (f9 jd Z je Z Z)<|aN 2 Z (lx jm Z)<|aN 3 Z (kq Z)<|aN 4 Z (dG m j4 j9 Z Z Z (by rw[q2 hm2,hv])) ?_
       refine aN 5 Z (mK jf Z)<|aN 7 Z (kq Z)<|cP 6 Z<|ze (dN f v hvv) Z<|z7<|aN 8 Z (Gv.neqI Z Z)<|kV<|zu Z (fun cq=>?_) (fun cq=>?_)
       ·have hq:¬aY f v=aY f z.dst:=by simpa using cq
        refine ai<|ad Z<|z7<|zg<|zi (x:=.bool _) Z ?_
        rw[hbadm (by rw[xU ew hmw];exact hq)]
       ·have hq:aY f v=aY f z.dst:=by simpa using cq
        refine zf<|bg<|aB Z Z<|aa Z<|z7 ?_
        exact ⟨m+1,⟨rfl,rfl,rfl,rfl,rfl,rfl,rfl,rfl,rfl,rfl,rfl,trivial⟩,aV,aU,⟨hm2,fp hm2 hmw hmall (by rw[hv,xU ew hmw];exact hq)⟩,by omega⟩
      ·have ew:¬z.op=1:=fun e=>by have:=(k7 hI.op).2 e;simp[this] at cw
       refine zf<|zb<|ya (fun j=>false) (by kernel_rfl) Z (yh (.rest _))<|aN 0 Z (yo jh j8 Z Z)<|aN 1 Z (f9 jd Z je Z Z)<|aN 2 Z (lx jm Z)<|aN 3 Z (kq Z)<|aN 4 Z (dG m j4 j9 Z Z Z (by rw[q2 hm2,hv])) ?_
       refine aN 5 Z (mK jf Z)<|aN 7 Z (kq Z)<|cP 6 Z<|ze (dN f v hvv) Z<|z7<|aN 8 Z (Gv.neqI Z Z)<|kV<|zu Z (fun cq=>?_) (fun cq=>?_)
       ·have hq:¬aY f v=cQ (c.toNat:Int):=by simpa using cq
        refine ai<|ad Z<|z7<|zg<|zi (x:=.bool _) Z ?_
        rw[hbadm (by rw[xV ew hmw hmt,hct];exact hq)]
       ·have hq:aY f v=cQ (c.toNat:Int):=by simpa using cq
        refine zf<|bg<|aB Z Z<|aa Z<|z7 ?_
        exact ⟨m+1,⟨rfl,rfl,rfl,rfl,rfl,rfl,rfl,rfl,rfl,rfl,rfl,trivial⟩,aV,aU,⟨hm2,fp hm2 hmw hmall (by rw[hv,xV ew hmw hmt,hct];exact hq)⟩,by omega⟩
     ·have hmn:m=z.args.length:=by simp at cm;omega
      have hall2:z.args.map (aY f)=er f z:=by rw[hmn,q7,hwl,q7] at hmall;exact hmall
      have hiw:=mc hI
      rw[qe hall2,Bool.true_and] at hiw
      refine zy<|zb<|ya (fun j=>false) (by kernel_rfl) Z (yh (.r (.rest _)))<|aN 0 Z (zd Z5 Z jy (by decide) Z Z)<|aN 1 Z (zj (c:=.str _) Z1 Z ⟨_,.head⟩ Z)<|aN 2 Z (Gv.neqT Z Z)<|aN 3 Z (Av Z)<|bz.case (s:=89) Z (fun c1=>?_) (fun c1=>?_)
      ·have d1:¬(bv z.op).2.2=⟨#[]⟩:=by simpa using c1
       have dm:cK z.op=true:=by rw[gP,qf d1];rfl
       obtain ⟨c,hc,hct⟩:=re d1
       refine fu 4 Z Z Z c1 (zd Z5 Z jy (by decide) Z Z)<|fu 5 Z Z Z c1 (zj (c:=.str _) Z1 Z ⟨_,.head⟩ Z)<|fu 6 Z Z Z c1 (Gv.neqT Z Z)<|aN 7 Z (Aw Z c1 Z)<|aN 8 Z (Av Z)<|bz.case (s:=94) Z (fun c2=>?_) (fun c2=>?_)
       ·have ew:¬z.op=1:=fun e=>by have:=(k7 hI.op).2 e;simp[this] at c2
        refine fu 9 Z Z Z c2 (yo jh j8 Z Z)<|fu 10 Z Z Z c2 (f9 jd Z j9 Z Z)<|fu 11 Z Z Z c2 (mK jf Z)<|fu 13 Z Z Z c2 (zd Z5 Z jy (by decide) Z Z)<|fu 14 Z Z Z c2 (zj (c:=.str _) Z1 Z ⟨_,.head⟩ Z)<|fu 15 Z Z Z c2 (Gv.indexT (j:=0) jv Z Z Z hc)<|cP 12 Z<|z8 Z Z c2<|ze (dN f z.dst (hdst dm)) Z<|z7<|cP 16 Z<|z8 Z Z c2<|ze (mb (c.toNat:Int)) Z<|z7<|fu 17 Z Z Z c2 (Gv.neqI Z Z)<|aN 18 Z (Aw Z c2 Z)<|kV<|zu Z (fun cq=>?_) (fun cq=>?_)
        ·have hq:¬aY f z.dst=cQ (c.toNat:Int):=by simpa using cq
         refine ai<|ad Z<|z7<|zg<|zi (x:=.bool _) Z ?_
         rw[hib (by rw[hiw,dm,qf ew,hct,qf hq];rfl)]
        ·have hq:aY f z.dst=cQ (c.toNat:Int):=by simpa using cq
         refine zf<|bg<|aB Z Z<|aa Z<|z7 ?_
         exact ⟨k+1,gY,aV,⟨_,(.drop (.refl _)),rfl⟩,⟨hk2,bX hk2 hkall (by rw[hz,hiw,hct,qe hq];simp)⟩,by omega⟩
       ·have ew:z.op=1:=(k7 hI.op).1 (by simpa using c2)
        refine dR 9 Z Z Z c2<|dR 10 Z Z Z c2<|dR 11 Z Z Z c2<|dR 12 Z Z Z c2<|dR 13 Z Z Z c2<|dR 14 Z Z Z c2<|dR 15 Z Z Z c2<|dR 16 Z Z Z c2<|dR 17 Z Z Z c2<|aN 18 Z (CG Z c2 Z)<|kV<|yd Z Z<|zf<|bg<|aB Z Z<|aa Z<|z7 ?_
        exact ⟨k+1,gY,aV,⟨_,(.drop (.refl _)),rfl⟩,⟨hk2,bX hk2 hkall (by rw[hz,hiw,qe ew];simp)⟩,by omega⟩
      ·have d1:(bv z.op).2.2=⟨#[]⟩:=by simpa using c1
       have dm:cK z.op=false:=by rw[gP,qe d1];rfl
       refine dR 4 Z Z Z c1<|dR 5 Z Z Z c1<|dR 6 Z Z Z c1<|aN 7 Z (CG Z c1 Z)<|aN 8 Z (Av Z)<|dR 9 Z Z Z Z<|dR 10 Z Z Z Z<|dR 11 Z Z Z Z<|dR 12 Z Z Z Z<|dR 13 Z Z Z Z<|dR 14 Z Z Z Z<|dR 15 Z Z Z Z<|dR 16 Z Z Z Z<|dR 17 Z Z Z Z<|aN 18 Z (CG Z Z Z)<|kV<|yd Z Z<|zf<|bg<|aB Z Z<|aa Z<|z7 ?_
       exact ⟨k+1,gY,aV,⟨_,(.drop (.refl _)),rfl⟩,⟨hk2,bX hk2 hkall (by rw[hz,hiw,dm];rfl)⟩,by omega⟩
   ·have hkn:k=b.insts.length:=by simp at ck;omega
    rw[hkn,q7] at hkall
    refine zy<|ai<|ap j5 Z jn Z Z<|ab Zo jn Z Z<|zp (cs:=[.int .i64 0,.int .i64 0,.int .i64 0,.int .i64 0]) zeroValue58 Z Z<|fun i14=>zm jn Z Z Z Z Z Z .head Z<|zx (yp (t:=14) Z .head)<|z7<|zb<|yn (γ:=Bool) [1,16,17,18] (fun u=>[(152,.bool u)]) (fun u=>[]) (fun u=>u=!bQ f b.term) ?_ (fun _ _ h=>h) ?_
    ·have hk3:=wr hTm
     refine bg<|ap j7 Z Z2 Z Z<|aF Z6 Z<|aq Z Z<|aj Z<|zk (s:=111) Z (fun c1=>?_) (fun c1=>?_)
     ·refine z8 Z Z c1<|ab jh j8 Z Z<|z8 Z Z c1<|ap j7 Z j9 Z Z<|z8 Z Z c1<|aF jf Z<|z8 Z Z c1<|ze (dN f b.term.var (gx hTm (by simp_all))) Z<|z8 Z Z c1<|aG Z Z<|ak Z c1 Z<|aj Z<|zk (s:=118) Z (fun c2=>?_) (fun c2=>?_)
      ·refine z6 Z Z c2<|z6 Z Z c2<|z6 Z Z c2<|z6 Z Z c2<|zc Z Z<|zc Z Z<|zc Z Z<|zc Z Z<|zc Z Z<|zc Z Z<|zc Z Z<|zc Z Z<|zc Z Z<|zc Z Z<|zc Z Z<|zc Z Z<|zc Z Z<|zc Z Z<|zc Z Z<|zc Z Z<|zc Z Z<|z6 Z Z c2<|ak Z c2 Z<|aj Z<|z6 Z Z Z<|z6 Z Z Z<|z6 Z Z Z<|z6 Z Z Z<|zc Z Z<|zc Z Z<|zc Z Z<|zc Z Z<|z6 Z Z Z<|ak Z Z Z<|z7 ?_
       exact ⟨_,fv,aV,aU,by simp_all[bQ]<;>omega⟩
      ·refine z8 Z Z c2<|ap j7 Z Z2 Z Z<|z8 Z Z c2<|aF Z6 Z<|z8 Z Z c2<|aq Z Z<|z8 Z Z c2<|aj Z<|zk (s:=122) Z (fun c3=>?_) (fun c3=>?_)
       ·refine z8 Z Z c3<|ab jh j8 Z Z<|z8 Z Z c3<|ap j7 Z j9 Z Z<|z8 Z Z c3<|aF jf Z<|z8 Z Z c3<|ze (dN f b.term.var (gx hTm (by simp_all))) Z<|z8 Z Z c3<|aG Z Z<|z8 Z Z c3<|aj Z<|zk (s:=128) Z (fun c4=>?_) (fun c4=>?_)
        ·refine z6 Z Z c4<|z6 Z Z c4<|z6 Z Z c4<|z6 Z Z c4<|z8 Z Z c3<|ak Z c4 Z<|z8 Z Z c3<|aj Z<|z6 Z Z Z<|z6 Z Z Z<|z6 Z Z Z<|z6 Z Z Z<|z8 Z Z c3<|ak Z Z Z<|z8 Z Z c2<|ak Z c3 Z<|al Z c2 Z<|aj Z<|z6 Z Z Z<|z6 Z Z Z<|z6 Z Z Z<|z6 Z Z Z<|zc Z Z<|zc Z Z<|zc Z Z<|zc Z Z<|z6 Z Z Z<|ak Z Z Z<|z7 ?_
         exact ⟨_,fv,aV,aU,by simp_all[bQ]<;>omega⟩
        ·refine z8 Z Z c4<|ap j7 Z jr Z Z<|z8 Z Z c4<|za (yl (j:=0) jg j9 Z Z Z (by decide) Z)<|z8 Z Z c4<|aF jf Z<|z8 Z Z c4<|aq Z Z<|z8 Z Z c3<|al Z c4 Z<|z8 Z Z c3<|aj Z<|zk (s:=134) Z (fun c5=>?_) (fun c5=>?_)
         ·refine z6 Z Z c5<|z6 Z Z c5<|z6 Z Z c5<|z6 Z Z c5<|z8 Z Z c3<|ak Z c5 Z<|z8 Z Z c2<|ak Z c3 Z<|al Z c2 Z<|aj Z<|z6 Z Z Z<|z6 Z Z Z<|z6 Z Z Z<|z6 Z Z Z<|zc Z Z<|zc Z Z<|zc Z Z<|zc Z Z<|z6 Z Z Z<|ak Z Z Z<|z7 ?_
          exact ⟨_,fv,aV,aU,by simp_all[bQ]<;>omega⟩
         ·refine z8 Z Z c5<|ap j7 Z jr Z Z<|z8 Z Z c5<|za (yl (j:=1) jg j9 Z Z Z (by decide) Z)<|z8 Z Z c5<|aF jf Z<|z8 Z Z c5<|aq Z Z<|z8 Z Z c3<|al Z c5 Z<|z8 Z Z c2<|ak Z c3 Z<|al Z c2 Z<|aj Z<|zk (s:=142) Z (fun c6=>?_) (fun c6=>?_)
          ·refine z6 Z Z c6<|z6 Z Z c6<|z6 Z Z c6<|z6 Z Z c6<|zc Z Z<|zc Z Z<|zc Z Z<|zc Z Z<|z6 Z Z c6<|ak Z c6 Z<|z7 ?_
           exact ⟨_,fv,aV,aU,by simp_all[bQ]<;>omega⟩
          ·refine z8 Z Z c6<|ap j7 Z Z2 Z Z<|z8 Z Z c6<|aF Z6 Z<|z8 Z Z c6<|aq Z Z<|z8 Z Z c6<|aj Z<|zk (s:=146) Z (fun c7=>?_) (fun c7=>?_)
           ·refine z8 Z Z c7<|ap j7 Z jr Z Z<|z8 Z Z c7<|za (yl (j:=0) jg j9 Z Z Z (by decide) Z)<|z8 Z Z c7<|aF jf Z<|z8 Z Z c7<|aq Z Z<|z8 Z Z c6<|ak Z c7 Z<|al Z c6 Z<|z7 ?_
            exact ⟨_,fv,aV,aU,by simp_all[bQ]<;>omega⟩
           ·refine z6 Z Z c7<|z6 Z Z c7<|z6 Z Z c7<|z6 Z Z c7<|z8 Z Z c6<|al Z c7 Z<|al Z c6 Z<|z7 ?_
            exact ⟨_,fv,aV,aU,by simp_all[bQ]<;>omega⟩
       ·refine z6 Z Z c3<|z6 Z Z c3<|z6 Z Z c3<|z6 Z Z c3<|z6 Z Z c3<|z6 Z Z c3<|zc Z Z<|zc Z Z<|zc Z Z<|zc Z Z<|z6 Z Z c3<|z6 Z Z c3<|zc Z Z<|zc Z Z<|zc Z Z<|zc Z Z<|z6 Z Z c3<|z8 Z Z c2<|al Z c3 Z<|al Z c2 Z<|aj Z<|z8 Z Z Z<|ap j7 Z Z2 Z Z<|z8 Z Z Z<|aF Z6 Z<|z8 Z Z Z<|aq Z Z<|z8 Z Z Z<|aj Z<|zk (s:=146) Z (fun c8=>?_) (fun c8=>?_)
        ·refine z8 Z Z c8<|ap j7 Z jr Z Z<|z8 Z Z c8<|za (yl (j:=0) jg j9 Z Z Z (by decide) Z)<|z8 Z Z c8<|aF jf Z<|z8 Z Z c8<|aq Z Z<|z8 Z Z Z<|ak Z c8 Z<|al Z Z Z<|z7 ?_
         exact ⟨_,fv,aV,aU,by simp_all[bQ]<;>omega⟩
        ·refine z6 Z Z c8<|z6 Z Z c8<|z6 Z Z c8<|z6 Z Z c8<|z8 Z Z Z<|al Z c8 Z<|al Z Z Z<|z7 ?_
         exact ⟨_,fv,aV,aU,by simp_all[bQ]<;>omega⟩
     ·refine z6 Z Z c1<|z6 Z Z c1<|z6 Z Z c1<|z6 Z Z c1<|z6 Z Z c1<|al Z c1 Z<|aj Z<|z8 Z Z Z<|ap j7 Z Z2 Z Z<|z8 Z Z Z<|aF Z6 Z<|z8 Z Z Z<|aq Z Z<|z8 Z Z Z<|aj Z<|zk (s:=122) Z (fun c9=>?_) (fun c9=>?_)
      ·refine z8 Z Z c9<|ab jh j8 Z Z<|z8 Z Z c9<|ap j7 Z j9 Z Z<|z8 Z Z c9<|aF jf Z<|z8 Z Z c9<|ze (dN f b.term.var (gx hTm (by simp_all))) Z<|z8 Z Z c9<|aG Z Z<|z8 Z Z c9<|aj Z<|zk (s:=128) Z (fun c10=>?_) (fun c10=>?_)
       ·refine z6 Z Z c10<|z6 Z Z c10<|z6 Z Z c10<|z6 Z Z c10<|z8 Z Z c9<|ak Z c10 Z<|z8 Z Z c9<|aj Z<|z6 Z Z Z<|z6 Z Z Z<|z6 Z Z Z<|z6 Z Z Z<|z8 Z Z c9<|ak Z Z Z<|z8 Z Z Z<|ak Z c9 Z<|al Z Z Z<|aj Z<|z6 Z Z Z<|z6 Z Z Z<|z6 Z Z Z<|z6 Z Z Z<|zc Z Z<|zc Z Z<|zc Z Z<|zc Z Z<|z6 Z Z Z<|ak Z Z Z<|z7 ?_
        exact ⟨_,fv,aV,aU,by simp_all[bQ]<;>omega⟩
       ·refine z8 Z Z c10<|ap j7 Z jr Z Z<|z8 Z Z c10<|za (yl (j:=0) jg j9 Z Z Z (by decide) Z)<|z8 Z Z c10<|aF jf Z<|z8 Z Z c10<|aq Z Z<|z8 Z Z c9<|al Z c10 Z<|z8 Z Z c9<|aj Z<|zk (s:=134) Z (fun c11=>?_) (fun c11=>?_)
        ·refine z6 Z Z c11<|z6 Z Z c11<|z6 Z Z c11<|z6 Z Z c11<|z8 Z Z c9<|ak Z c11 Z<|z8 Z Z Z<|ak Z c9 Z<|al Z Z Z<|aj Z<|z6 Z Z Z<|z6 Z Z Z<|z6 Z Z Z<|z6 Z Z Z<|zc Z Z<|zc Z Z<|zc Z Z<|zc Z Z<|z6 Z Z Z<|ak Z Z Z<|z7 ?_
         exact ⟨_,fv,aV,aU,by simp_all[bQ]<;>omega⟩
        ·refine z8 Z Z c11<|ap j7 Z jr Z Z<|z8 Z Z c11<|za (yl (j:=1) jg j9 Z Z Z (by decide) Z)<|z8 Z Z c11<|aF jf Z<|z8 Z Z c11<|aq Z Z<|z8 Z Z c9<|al Z c11 Z<|z8 Z Z Z<|ak Z c9 Z<|al Z Z Z<|aj Z<|zk (s:=142) Z (fun c12=>?_) (fun c12=>?_)
         ·refine z6 Z Z c12<|z6 Z Z c12<|z6 Z Z c12<|z6 Z Z c12<|zc Z Z<|zc Z Z<|zc Z Z<|zc Z Z<|z6 Z Z c12<|ak Z c12 Z<|z7 ?_
          exact ⟨_,fv,aV,aU,by simp_all[bQ]<;>omega⟩
         ·refine z8 Z Z c12<|ap j7 Z Z2 Z Z<|z8 Z Z c12<|aF Z6 Z<|z8 Z Z c12<|aq Z Z<|z8 Z Z c12<|aj Z<|zk (s:=146) Z (fun c13=>?_) (fun c13=>?_)
          ·refine z8 Z Z c13<|ap j7 Z jr Z Z<|z8 Z Z c13<|za (yl (j:=0) jg j9 Z Z Z (by decide) Z)<|z8 Z Z c13<|aF jf Z<|z8 Z Z c13<|aq Z Z<|z8 Z Z c12<|ak Z c13 Z<|al Z c12 Z<|z7 ?_
           exact ⟨_,fv,aV,aU,by simp_all[bQ]<;>omega⟩
          ·refine z6 Z Z c13<|z6 Z Z c13<|z6 Z Z c13<|z6 Z Z c13<|z8 Z Z c12<|al Z c13 Z<|al Z c12 Z<|z7 ?_
           exact ⟨_,fv,aV,aU,by simp_all[bQ]<;>omega⟩
      ·refine z6 Z Z c9<|z6 Z Z c9<|z6 Z Z c9<|z6 Z Z c9<|z6 Z Z c9<|z6 Z Z c9<|zc Z Z<|zc Z Z<|zc Z Z<|zc Z Z<|z6 Z Z c9<|z6 Z Z c9<|zc Z Z<|zc Z Z<|zc Z Z<|zc Z Z<|z6 Z Z c9<|z8 Z Z Z<|al Z c9 Z<|al Z Z Z<|aj Z<|z8 Z Z Z<|ap j7 Z Z2 Z Z<|z8 Z Z Z<|aF Z6 Z<|z8 Z Z Z<|aq Z Z<|z8 Z Z Z<|aj Z<|zk (s:=146) Z (fun c14=>?_) (fun c14=>?_)
       ·refine z8 Z Z c14<|ap j7 Z jr Z Z<|z8 Z Z c14<|za (yl (j:=0) jg j9 Z Z Z (by decide) Z)<|z8 Z Z c14<|aF jf Z<|z8 Z Z c14<|aq Z Z<|z8 Z Z Z<|ak Z c14 Z<|al Z Z Z<|z7 ?_
        exact ⟨_,fv,aV,aU,by simp_all[bQ]<;>omega⟩
       ·refine z6 Z Z c14<|z6 Z Z c14<|z6 Z Z c14<|z6 Z Z c14<|z8 Z Z Z<|al Z c14 Z<|al Z Z Z<|z7 ?_
        exact ⟨_,fv,aV,aU,by simp_all[bQ]<;>omega⟩
    ·rintro u hu
     subst hu
     refine zu Z (fun ct=>?_) (fun ct=>?_)
     ·have dt:bQ f b.term=false:=by simpa using ct
      refine ai<|ad Z<|z7<|zg<|zi (x:=.bool _) Z ?_
      rw[hbad (by unfold ef;rw[hjall,hkall,dt];rfl)]
     ·have dt:bQ f b.term=true:=by simpa using ct
      refine zf<|bg<|aB Z Z<|aa Z<|z7 ?_
      exact ⟨i+1,oE,aV,aU,⟨hi2,bX hi2 hall (by rw[hbi];unfold ef;rw[hjall,hkall,dt];rfl)⟩,by omega⟩
 ·have hin:i=f.blocks.length:=by simp at ci;omega
  rw[hin,q7] at hall
  refine zy<|ai<|ad Z<|z7<|zg<|zi (x:=.bool _) Z ?_
  rw[hall]
end
section
open Go.Proofs.Tryz
open Go.Proofs Go.Lib Go.Shelf Go.RowKit
set_option maxRecDepth 20000
variable {E:World}
theorem jB {α:Type} (g:α→Nat):∀(l:List α) (k:Nat),((l.take k).map g).sum≤(l.map g).sum
 |[],k=>by simp
 |x::l,0=>by simp
 |x::l,k+1=>by
  have:=jB g l k
  simp only[List.take_succ_cons,List.map_cons,List.sum_cons];omega
theorem Be (l:List bM) (k:Nat):wP (l.take k)≤wP l:=jB _ l k
theorem Bf (l:List bB) (k:Nat):wX (l.take k)≤wX l:=jB _ l k
theorem jZ {f:ae} (h:jW f) {k:Nat} (hk:k<f.blocks.length):wV f.vars+qG (f.blocks.take k)+wB f.blocks[k]≤4000:=by
 have h1:=h.2.2.2.2.2 (fun e=>by rw[e] at hk;exact absurd hk (Nat.not_lt_zero _))
 have h2:qG (f.blocks.take (k+1))≤qG f.blocks:=jB _ f.blocks (k+1)
 rw[oZ hk] at h2
 omega
set_option maxHeartbeats 8000000 in
theorem pC (f:ae) (hf:nl f):bV prog E 6 [.agg (bC f)] [] (fun x _=>∃b:Bool,x=.bool b∧(b=true↔jW f)):=by
 obtain ⟨hf1,hf2,hf3,hf4⟩:=hf
 have hl1:=hf1.lt
 have hl3:=hf3.lt
 refine zo func6 Z (by decide) Z<|ai<|y9 (cs:=_) Z Z Z<|ad Z<|z7<|zb<|zb<|yn (γ:=Unit) [1] (fun u=>[(27,.bool (vZ f))]) (fun u=>[]) (fun u=>True) ?_ (fun _ _ h=>h) ?_
 ·refine bg<|ap j6 Z Za Z Z<|aP Zi Z<|ac jk Z<|za (yy Z Z)<|aj Z<|zk (s:=16) Z (fun c1=>?_) (fun c1=>?_)
  ·refine z6 Z Z c1<|z6 Z Z c1<|z6 Z Z c1<|z6 Z Z c1<|ak Z c1 Z<|aj Z<|z6 Z Z Z<|z6 Z Z Z<|z6 Z Z Z<|z6 Z Z Z<|ak Z Z Z<|z7 ?_
   exact ⟨(),aV,⟨jb (by simp_all[vZ]<;>grind),trivial⟩,aU,trivial⟩
  ·refine z8 Z Z c1<|ap j6 Z ji Z Z<|z8 Z Z c1<|aP js Z<|z8 Z Z c1<|ac ja Z<|z8 Z Z c1<|za (yy Z Z)<|al Z c1 Z<|aj Z<|zk (s:=22) Z (fun c2=>?_) (fun c2=>?_)
   ·refine z6 Z Z c2<|z6 Z Z c2<|z6 Z Z c2<|z6 Z Z c2<|ak Z c2 Z<|z7 ?_
    exact ⟨(),aV,⟨jb (by simp_all[vZ]<;>grind),trivial⟩,aU,trivial⟩
   ·refine z8 Z Z c2<|ap j6 Z je Z Z<|z8 Z Z c2<|aP jm Z<|z8 Z Z c2<|ac j4 Z<|z8 Z Z c2<|za (yy Z Z)<|al Z c2 Z<|z7 ?_
    exact ⟨(),aV,⟨jb (by simp_all[vZ]<;>grind),trivial⟩,aU,trivial⟩
 ·rintro _ _
  refine zu Z (fun c1=>?_) (fun c1=>?_)
  ·refine ai<|ad Z<|z7<|zg<|zi (x:=.bool _) Z ?_
   exact ⟨_,rfl,fun h=>(by cases h),fun hl=>absurd hl (fun hl=>by have h1:=hl.1;have h2:=hl.2.1;have h3:=hl.2.2.1;unfold vZ at c1;simp at c1;omega)⟩
  ·have hsz:f.vars.length≤100∧f.blocks.length≤40∧f.params.length≤20:=by unfold vZ at c1;simp at c1;omega
   refine zf<|ai<|aw Z<|z7<|zb<|ai<|ap j6 Z Za Z Z<|aP Zi Z<|ac jk Z<|aa Z<|z7<|zh<|y7 (γ:=Nat) [1,29,30] (fun k=>[(31,.int .i64 k),(3,.int .i64 (wV (f.vars.take k)))]) (fun k=>[]) (fun k=>k≤f.vars.length∧wV (f.vars.take k)≤400*k∧∀v∈f.vars.take k,v.name.size≤400) (fun k=>f.vars.length - k) 0 fF aU (⟨q5 _,Nat.le_refl _,by simp⟩) ?_
   rintro k ⟨hk,hw,hv⟩
   refine ai<|ay Z Z<|z7<|zb<|zt Z (fun ck=>?_) (fun ck=>?_)
   ·have hk1:k<f.vars.length:=by omega
    have hs:=AO hk1
    refine zf<|zb<|zh<|ai<|za (yk jk Zc Z Z Z (q2 (by omega)))<|ab isAgg66 Zc Z Z<|zp (cs:=[.str ⟨#[]⟩,.int .i64 0]) zeroValue66 Z Z<|fun i5=>zm Zc Z Z Z Z Z Z .head Z<|z7<|zb<|ai<|za (zd Z3 Z jy (by decide) Z Z)<|za (zj (c:=.str _) Z1 Z ⟨_,.head⟩ Z)<|za (Gv.lenT jv Z)<|za (yy Z Z)<|z7<|zt Z (fun cn=>?_) (fun cn=>?_)
    ·refine ai<|ad Z<|z7<|zg<|zi (x:=.bool _) Z ?_
     exact ⟨_,rfl,fun h=>(by cases h),fun hl=>absurd hl (fun hl=>by have h1:=hl.2.2.2.1 _ (q6 hk1);omega)⟩
    ·refine zf<|bg<|aa Z<|za (zd Z3 Z jy (by decide) Z Z)<|za (zj (c:=.str _) Z1 Z ⟨_,.head⟩ Z)<|za (Gv.lenT jv Z)<|aB Z Z<|aw Z<|z7<|bg<|aB Z Z<|aa Z<|z7 ?_
     exact ⟨k+1,oE,⟨rfl,congrArg (AV.int .i64) (by rw[hs];omega),trivial⟩,⟨_,(.drop (.refl _)),rfl⟩,⟨hk1,by omega,da hk1 hv (by omega)⟩,by omega⟩
   ·obtain rfl:k=f.vars.length:=by omega
    rw[q7] at hw hv
    rw[q7]
    refine zy<|zb<|ai<|ap j6 Z ji Z Z<|aP js Z<|ac ja Z<|aa Z<|z7<|zh<|y7 (γ:=Nat) [46,47] (fun k=>[(48,.int .i64 k),(3,.int .i64 (wV f.vars+qG (f.blocks.take k):Nat))]) (fun k=>[]) (fun k=>k≤f.blocks.length∧(0<k→wV f.vars+qG (f.blocks.take k)≤4000)∧qG (f.blocks.take k)≤4000∧∀b∈f.blocks.take k,rU b) (fun k=>f.blocks.length - k) 0 fF aU (⟨q5 _,by omega,by simp[qG],by simp⟩) ?_
    rintro k ⟨hk,hw2,hw3,hb⟩
    refine ai<|ay Z Z<|z7<|zb<|zt Z (fun ck=>?_) (fun ck=>?_)
    ·have hk1:k<f.blocks.length:=by omega
     obtain ⟨hb1,hb2,hb3,hb4⟩:=hf4 _ (q6 hk1)
     have hs:=oZ hk1
     refine zf<|zb<|zh<|ai<|za (yk ja jj Z Z Z (q2 (by omega)))<|ab Z7 jj Z Z<|zp (cs:=[.str ⟨#[]⟩,.raw (.slice none 0 0),.raw (.slice none 0 0),.int .i64 0,.int .i64 0,.int .i64 0,.int .i64 0]) ju Z Z<|fun i7=>zm jj Z Z Z Z Z Z .head Z<|z7<|zb<|zb<|yn (γ:=Unit) [3,7,46,47,48] (fun u=>[(67,.bool (v6 f.blocks[k]))]) (fun u=>[(i7,.cells 60 (aE f.blocks[k]))]) (fun u=>True) ?_ (fun _ _ h=>h) ?_
     ·refine bg<|za (zd j5 Z jy (by decide) Z Z)<|za (zj (c:=.str _) Z1 Z ⟨_,.head⟩ Z)<|za (Gv.lenT jv Z)<|za (yy Z Z)<|aj Z<|zk (s:=56) Z (fun c3=>?_) (fun c3=>?_)
      ·refine z6 Z Z c3<|z6 Z Z c3<|z6 Z Z c3<|z6 Z Z c3<|ak Z c3 Z<|aj Z<|z6 Z Z Z<|z6 Z Z Z<|z6 Z Z Z<|z6 Z Z Z<|ak Z Z Z<|z7 ?_
       exact ⟨(),Ao,⟨jb (by simp_all[v6]<;>grind),trivial⟩,aU,trivial⟩
      ·refine z8 Z Z c3<|za (zd j5 Z jw (by decide) Z Z)<|z8 Z Z c3<|za (zj (c:=.fro _ _) Z8 Z ⟨_,.head⟩ Z)<|z8 Z Z c3<|ac jl Z<|z8 Z Z c3<|za (yy Z Z)<|al Z c3 Z<|aj Z<|zk (s:=62) Z (fun c4=>?_) (fun c4=>?_)
       ·refine z6 Z Z c4<|z6 Z Z c4<|z6 Z Z c4<|z6 Z Z c4<|ak Z c4 Z<|z7 ?_
        exact ⟨(),Ao,⟨jb (by simp_all[v6]<;>grind),trivial⟩,aU,trivial⟩
       ·refine z8 Z Z c4<|za (zd j5 Z Z0 (by decide) Z Z)<|z8 Z Z c4<|za (zj (c:=.fro _ _) Ze Z ⟨_,.head⟩ Z)<|z8 Z Z c4<|ac jo Z<|z8 Z Z c4<|za (yy Z Z)<|al Z c4 Z<|z7 ?_
        exact ⟨(),Ao,⟨jb (by simp_all[v6]<;>grind),trivial⟩,aU,trivial⟩
     ·rintro _ _
      refine zu Z (fun c2=>?_) (fun c2=>?_)
      ·refine ai<|ad Z<|z7<|zg<|zi (x:=.bool _) Z ?_
       exact ⟨_,rfl,fun h=>(by cases h),fun hl=>absurd hl (fun hl=>by obtain ⟨h1,h2,h3,_⟩:=hl.2.2.2.2.1 _ (q6 hk1);unfold v6 at c2;simp at c2;omega)⟩
      ·have hsb:f.blocks[k].name.size≤400∧f.blocks[k].phis.length≤400∧f.blocks[k].insts.length≤400:=by unfold v6 at c2;simp at c2;omega
       refine zf<|ai<|aa Z<|za (zd j5 Z jy (by decide) Z Z)<|za (zj (c:=.str _) Z1 Z ⟨_,.head⟩ Z)<|za (Gv.lenT jv Z)<|za (zd j5 Z jw (by decide) Z Z)<|za (zj (c:=.fro _ _) Z8 Z ⟨_,.head⟩ Z)<|ac jl Z<|za (zd j5 Z Z0 (by decide) Z Z)<|za (zj (c:=.fro _ _) Ze Z ⟨_,.head⟩ Z)<|ac jo Z<|aB Z Z<|za (Gv.mul Z Z (by unfold nK;omega))<|aB Z Z<|aB Z Z<|aw Z<|z7<|zb<|ai<|za (zd j5 Z jw (by decide) Z Z)<|za (zj (c:=.fro _ _) Z8 Z ⟨_,.head⟩ Z)<|ac jl Z<|aa Z<|z7<|zh<|y7 (γ:=Nat) [7,46,47,48,83,84] (fun m=>[(85,.int .i64 m),(3,.int .i64 (wV f.vars+qG (f.blocks.take k)+(f.blocks[k].name.size+10*(f.blocks[k].phis.length+f.blocks[k].insts.length))+wP (f.blocks[k].phis.take m):Nat))]) (fun m=>[(i7,.cells 60 (aE f.blocks[k]))]) (fun m=>m≤f.blocks[k].phis.length∧wP (f.blocks[k].phis.take m)≤800*m∧∀p∈f.blocks[k].phis.take m,p.args.length≤400∧p.from_.length≤400) (fun m=>f.blocks[k].phis.length - m) 0 ⟨Z,(congrArg (AV.int .i64) (by simp[wP]<;>omega)),trivial⟩ aU (⟨q5 _,by simp[wP],by simp⟩) ?_
       rintro m ⟨hm,hwp,hp⟩
       refine ai<|ay Z Z<|z7<|zb<|zt Z (fun cm=>?_) (fun cm=>?_)
       ·have hm1:m<f.blocks[k].phis.length:=by omega
        obtain ⟨hq1,hq2⟩:=hb3 _ (q6 hm1)
        have hl6:=hq1.lt
        have hl7:=hq2.lt
        have hs2:=AP hm1
        refine zf<|zb<|zh<|ai<|za (yk jl jp Z Z Z (q2 (by omega)))<|ab Zf jp Z Z<|zp (cs:=[.int .i64 0,.raw (.slice none 0 0),.raw (.slice none 0 0)]) jz Z Z<|fun i9=>zm jp Z Z Z Z Z Z .head Z<|z7<|zb<|zb<|yn (γ:=Unit) [3,7,9,46,47,48,83,84,85] (fun u=>[(102,.bool (decide ((4000:Int)<(wV f.vars+qG (f.blocks.take k)+(f.blocks[k].name.size+10*(f.blocks[k].phis.length+f.blocks[k].insts.length))+wP (f.blocks[k].phis.take m):Nat))||(decide ((400:Int)<f.blocks[k].phis[m].args.length)||decide ((400:Int)<f.blocks[k].phis[m].from_.length))))]) (fun u=>[(i9,.cells 73 (aL f.blocks[k].phis[m])),(i7,.cells 60 (aE f.blocks[k]))]) (fun u=>True) ?_ (fun _ _ h=>h) ?_
        ·refine bg<|aa Z<|za (yy Z Z)<|aj Z<|zk (s:=91) Z (fun c5=>?_) (fun c5=>?_)
         ·refine z6 Z Z c5<|z6 Z Z c5<|z6 Z Z c5<|z6 Z Z c5<|ak Z c5 Z<|aj Z<|z6 Z Z Z<|z6 Z Z Z<|z6 Z Z Z<|z6 Z Z Z<|ak Z Z Z<|z7 ?_
          exact ⟨(),ne,⟨jb (by simp_all<;>grind),trivial⟩,aU,trivial⟩
         ·refine z8 Z Z c5<|za (zd jc Z je (by decide) Z Z)<|z8 Z Z c5<|za (zj (c:=.fro _ _) jm Z ⟨_,.head⟩ Z)<|z8 Z Z c5<|ac j4 Z<|z8 Z Z c5<|za (yy Z Z)<|al Z c5 Z<|aj Z<|zk (s:=97) Z (fun c6=>?_) (fun c6=>?_)
          ·refine z6 Z Z c6<|z6 Z Z c6<|z6 Z Z c6<|z6 Z Z c6<|ak Z c6 Z<|z7 ?_
           exact ⟨(),ne,⟨jb (by simp_all<;>grind),trivial⟩,aU,trivial⟩
          ·refine z8 Z Z c6<|za (zd jc Z je (by decide) Z Z)<|z8 Z Z c6<|za (zj (c:=.fro _ _) jm Z ⟨_,.head⟩ Z)<|z8 Z Z c6<|ac j4 Z<|z8 Z Z c6<|za (yy Z Z)<|al Z c6 Z<|z7 ?_
           exact ⟨(),ne,⟨jb (by simp_all<;>grind),trivial⟩,aU,trivial⟩
        ·rintro _ _
         refine zu Z (fun cp=>?_) (fun cp=>?_)
         ·refine ai<|ad Z<|z7<|zg<|zi (x:=.bool _) Z ?_
          exact ⟨_,rfl,fun h=>(by cases h),fun hl=>absurd hl (fun hl=>by obtain ⟨_,_,_,h4,_⟩:=hl.2.2.2.2.1 _ (q6 hk1);have h5:=h4 _ (q6 hm1);have h9:=jZ hl hk1;have hwb:wB f.blocks[k]=f.blocks[k].name.size+10*(f.blocks[k].phis.length+f.blocks[k].insts.length)+wP f.blocks[k].phis+wX f.blocks[k].insts:=rfl;have h10:=Be f.blocks[k].phis m;simp only[Bool.or_eq_true,qh] at cp;omega)⟩
         ·rcases Bool.or_eq_false_iff.1 cp with ⟨a1,a2⟩
          rcases Bool.or_eq_false_iff.1 a2 with ⟨a3,a4⟩
          have a3:=of_decide_eq_false a3
          have a4:=of_decide_eq_false a4
          refine zf<|bg<|aa Z<|za (zd jc Z je (by decide) Z Z)<|za (zj (c:=.fro _ _) jm Z ⟨_,.head⟩ Z)<|ac j4 Z<|za (zd jc Z je (by decide) Z Z)<|za (zj (c:=.fro _ _) jm Z ⟨_,.head⟩ Z)<|ac j4 Z<|aB Z Z<|aB Z Z<|aw Z<|z7<|bg<|aB Z Z<|aa Z<|z7 ?_
          exact ⟨m+1,Ax,⟨rfl,congrArg (AV.int .i64) (by rw[hs2];omega),trivial⟩,⟨_,(.drop (.refl _)),rfl⟩,⟨hm1,by omega,da hm1 hp ⟨by omega,by omega⟩⟩,by omega⟩
       ·obtain rfl:m=f.blocks[k].phis.length:=by omega
        rw[q7] at hwp hp
        rw[q7]
        refine zy<|zb<|ai<|za (zd j5 Z Z0 (by decide) Z Z)<|za (zj (c:=.fro _ _) Ze Z ⟨_,.head⟩ Z)<|ac jo Z<|aa Z<|z7<|zh<|y7 (γ:=Nat) [46,47,48,114,115] (fun m=>[(116,.int .i64 m),(3,.int .i64 (wV f.vars+qG (f.blocks.take k)+(f.blocks[k].name.size+10*(f.blocks[k].phis.length+f.blocks[k].insts.length))+wP f.blocks[k].phis+wX (f.blocks[k].insts.take m):Nat))]) (fun m=>[(i7,.cells 60 (aE f.blocks[k]))]) (fun m=>m≤f.blocks[k].insts.length∧wX (f.blocks[k].insts.take m)≤400*m∧∀p∈f.blocks[k].insts.take m,p.args.length≤400) (fun m=>f.blocks[k].insts.length - m) 0 ⟨Z,(congrArg (AV.int .i64) (by simp[wX]<;>omega)),trivial⟩ aU (⟨q5 _,by simp[wX],by simp⟩) ?_
        rintro m ⟨hm,hwx,hx⟩
        refine ai<|ay Z Z<|z7<|zb<|zt Z (fun cm=>?_) (fun cm=>?_)
        ·have hm1:m<f.blocks[k].insts.length:=by omega
         have hq1:=hb4 _ (q6 hm1)
         have hl6:=hq1.lt
         have hs2:=AQ hm1
         refine zf<|zb<|zh<|ai<|za (yk jo jt Z Z Z (q2 (by omega)))<|ab Zm jt Z Z<|zp (cs:=[.int .i64 0,.int .i64 0,.raw (.slice none 0 0),.int .i64 0]) Zg Z Z<|fun i11=>zm jt Z Z Z Z Z Z .head Z<|z7<|zb<|zb<|yn (γ:=Unit) [3,11,46,47,48,114,115,116] (fun u=>[(127,.bool (decide ((4000:Int)<(wV f.vars+qG (f.blocks.take k)+(f.blocks[k].name.size+10*(f.blocks[k].phis.length+f.blocks[k].insts.length))+wP f.blocks[k].phis+wX (f.blocks[k].insts.take m):Nat))||decide ((400:Int)<f.blocks[k].insts[m].args.length)))]) (fun u=>[(i11,.cells 69 (aZ f.blocks[k].insts[m])),(i7,.cells 60 (aE f.blocks[k]))]) (fun u=>True) ?_ (fun _ _ h=>h) ?_
         ·refine bg<|aa Z<|za (yy Z Z)<|aj Z<|zk (s:=122) Z (fun c7=>?_) (fun c7=>?_)
          ·refine z6 Z Z c7<|z6 Z Z c7<|z6 Z Z c7<|z6 Z Z c7<|ak Z c7 Z<|z7 ?_
           exact ⟨(),qi,⟨jb (by simp_all<;>grind),trivial⟩,aU,trivial⟩
          ·refine z8 Z Z c7<|za (zd jd Z je (by decide) Z Z)<|z8 Z Z c7<|za (zj (c:=.fro _ _) jm Z ⟨_,.head⟩ Z)<|z8 Z Z c7<|ac j4 Z<|z8 Z Z c7<|za (yy Z Z)<|al Z c7 Z<|z7 ?_
           exact ⟨(),qi,⟨jb (by simp_all<;>grind),trivial⟩,aU,trivial⟩
         ·rintro _ _
          refine zu Z (fun cp=>?_) (fun cp=>?_)
          ·refine ai<|ad Z<|z7<|zg<|zi (x:=.bool _) Z ?_
           exact ⟨_,rfl,fun h=>(by cases h),fun hl=>absurd hl (fun hl=>by obtain ⟨_,_,_,_,h4⟩:=hl.2.2.2.2.1 _ (q6 hk1);have h5:=h4 _ (q6 hm1);have h9:=jZ hl hk1;have hwb:wB f.blocks[k]=f.blocks[k].name.size+10*(f.blocks[k].phis.length+f.blocks[k].insts.length)+wP f.blocks[k].phis+wX f.blocks[k].insts:=rfl;have h10:=Bf f.blocks[k].insts m;simp only[Bool.or_eq_true,qh] at cp;omega)⟩
          ·rcases Bool.or_eq_false_iff.1 cp with ⟨a1,a2⟩
           have a2:=of_decide_eq_false a2
           refine zf<|bg<|aa Z<|za (zd jd Z je (by decide) Z Z)<|za (zj (c:=.fro _ _) jm Z ⟨_,.head⟩ Z)<|ac j4 Z<|aB Z Z<|aw Z<|z7<|bg<|aB Z Z<|aa Z<|z7 ?_
           exact ⟨m+1,Ao,⟨rfl,congrArg (AV.int .i64) (by rw[hs2];omega),trivial⟩,⟨_,(.drop (.refl _)),rfl⟩,⟨hm1,by omega,da hm1 hx (by omega)⟩,by omega⟩
        ·obtain rfl:m=f.blocks[k].insts.length:=by omega
         rw[q7] at hwx hx
         rw[q7]
         refine zy<|ai<|aa Z<|za (yy Z Z)<|z7<|zt Z (fun cz=>?_) (fun cz=>?_)
         ·refine ai<|ad Z<|z7<|zg<|zi (x:=.bool _) Z ?_
          exact ⟨_,rfl,fun h=>(by cases h),fun hl=>absurd hl (fun hl=>by have h9:=jZ hl hk1;have hwb:wB f.blocks[k]=f.blocks[k].name.size+10*(f.blocks[k].phis.length+f.blocks[k].insts.length)+wP f.blocks[k].phis+wX f.blocks[k].insts:=rfl;omega)⟩
         ·have hwb:wB f.blocks[k]=f.blocks[k].name.size+10*(f.blocks[k].phis.length+f.blocks[k].insts.length)+wP f.blocks[k].phis+wX f.blocks[k].insts:=rfl
          refine zf<|bg<|aB Z Z<|aa Z<|z7 ?_
          exact ⟨k+1,fF,⟨rfl,congrArg (AV.int .i64) (by rw[hs];omega),trivial⟩,⟨_,(.drop (.refl _)),rfl⟩,⟨hk1,by omega,by omega,da hk1 hb ⟨hsb.1,hsb.2.1,hsb.2.2,hp,hx⟩⟩,by omega⟩
    ·obtain rfl:k=f.blocks.length:=by omega
     rw[q7] at hw2 hw3 hb
     refine zy<|ai<|ad Z<|z7<|zg<|zi (x:=.bool _) Z ?_
     exact ⟨_,rfl,fun _=>⟨hsz.1,hsz.2.1,hsz.2.2,hv,hb,fun hne=>hw2 (List.length_pos_iff.2 hne)⟩,fun _=>rfl⟩
theorem kP (f:ae) (hf:jU f) (hn:iZ f) (hL:ah E):aT prog E 27 [.agg (bC f)] (.bool (decide (bw f))):=by
 refine zo func27 Z (by decide) Z<|ai<|y9 (cs:=_) Z Z Z<|ad Z<|z7<|ai<|ab jh j8 Z Z<|ze (lR _ (by assumption) (by assumption) hL) Z<|ad Z<|z7<|zg<|zi (x:=.bool _) Z ?_
 rfl
noncomputable def rg (f:ae):Bool:=@decide (jW f) (Classical.propDecidable _)
theorem jC (f:ae):rg f=true↔jW f:=by unfold rg;exact @decide_eq_true_iff _ (Classical.propDecidable _)
theorem nu (f:ae) (hf:nl f):aT prog E 6 [.agg (bC f)] (.bool (rg f)):=
 (pC f hf).mono fun x O' ⟨b,e,h⟩=>by
  rw[e]
  congr 1
  rw[Bool.eq_iff_iff,h,jC]
theorem me (f:ae) (hf:small f) (hL:ah E):aT prog E 13 [.agg (bC f)] (.bool (aS f)):=by
 have hs:=kP (E:=E) f hf.ok hf.names hL
 refine zo func13 Z (by decide) Z<|ai<|y9 (cs:=_) Z Z Z<|ad Z<|z7<|ai<|ab jh j8 Z Z<|ze (hs) Z ?_
 by_cases g4:bw f
 ·refine aj Z<|z8 Z Z (qe g4)<|ab jh j8 Z Z<|z8 Z Z (qe g4)<|ze (mV f hf g4) Z<|za (Aw Z (qe g4) Z)<|ad Z<|z7<|zg<|zi (x:=.bool _) Z ?_
  exact jb (by unfold aS;rw[dy,qe g4];rfl)
 ·refine aj Z<|z6 Z Z (qf g4)<|z6 Z Z (qf g4)<|za (CG Z (qf g4) Z)<|ad Z<|z7<|zg<|zi (x:=.bool _) Z ?_
  exact jb (by unfold aS;rw[dy,qf g4];rfl)
theorem mW (f:ae) (hw:nl f) (hL:ah E):aT prog E 23 [.agg (bC f)] (.bool (rg f&&aS f)):=by
 refine zo func23 Z (by decide) Z<|ai<|y9 (cs:=_) Z Z Z<|ad Z<|z7<|ai<|ab jh j8 Z Z<|ze (nu f hw) Z<|aj Z<|zk (s:=5) Z (fun g=>?_) (fun g=>?_)
 ·refine z8 Z Z g<|ab jh j8 Z Z<|z8 Z Z g<|ze (me f ((jC f).1 g).small hL) Z<|ak Z g Z<|ad Z<|z7<|zg<|zi (x:=.bool _) Z ?_
  exact jb (by rw[g];rfl)
 ·refine z6 Z Z g<|z6 Z Z g<|al Z g Z<|ad Z<|z7<|zg<|zi (x:=.bool _) Z ?_
  exact jb (by rw[g];rfl)
end
section
open Go.Proofs.Tryz
end
section
open Go.Proofs.Tryz
open Go.Proofs Go.Lib Go.Shelf Go.RowKit
variable {E:World}
set_option maxRecDepth 20000
theorem pD (xs:List Int) (v:Int) (hl:xs.length≤281474976710656):aT prog E 90 [.fro 1 (xs.map bh),.int .i64 v] (.int .i64 (cA (fun x=>decide (v=x)) xs 0)):=by
 refine zo func90 Z (by decide) Z<|ai<|aw Z<|z7<|zb<|ai<|aX Z<|ac j4 Z<|aa Z<|z7<|zh<|y7 (γ:=Nat) [0,1,7] (fun k=>[(8,.int .i64 k)]) (fun k=>[]) (fun k=>k≤xs.length∧(xs.take k).all (fun x=>!decide (v=x))) (fun k=>xs.length - k) 0 aV aU (⟨q5 _,Z⟩) ?_
 rintro k ⟨hk,hall⟩
 refine ai<|ay Z Z<|z7<|zb<|zt Z (fun ck=>?_) (fun ck=>?_)
 ·have hk2:k<xs.length:=by simp at ck;omega
  refine zf<|zb<|zh<|ai<|aa Z<|aw Z<|z7<|ai<|aa Z<|aX Z<|aa Z<|za (dG k j4 j9 Z Z Z (q2 hk2))<|aF jf Z<|aq Z Z<|z7<|zu Z (fun cp=>?_) (fun cp=>?_)
  ·refine ai<|aa Z<|aw Z<|z7<|zg<|zi (x:=.int _ _) Z ?_
   rw[bN _ xs k hk hall,List.drop_eq_getElem_cons hk2,cA,if_pos (by simpa using cp)]
  ·refine zf<|bg<|aB Z Z<|aa Z<|z7 ?_
   exact ⟨k+1,oE,aV,aU,⟨hk2,by rw[q3 hk2,List.all_append,hall];simpa using cp⟩,by omega⟩
 ·have hkn:k=xs.length:=by simp at ck;omega
  refine zy<|ai<|aw Z<|z7<|zg<|zi (x:=.int _ _) Z ?_
  rw[bN _ xs k hk hall,hkn,List.drop_length,cA]
theorem mf (xs:List Int) (v:Int) (hl:xs.length≤281474976710656):aT prog E 68 [.fro 1 (xs.map bh),.int .i64 v] (.bool (xs.contains v)):=by
 refine zo func68 Z (by decide) Z<|ai<|ad Z<|z7<|ai<|aX Z<|aa Z<|ze (pD xs v hl) Z<|za (Gv.geq Z Z)<|ad Z<|z7<|zg<|zi (x:=.bool _) Z ?_
 rw[eC];congr 1;rw[Bool.eq_iff_iff];simp
end
end Go.Proofs.YtjpnhkmfhlnpcaaGreatDoor
