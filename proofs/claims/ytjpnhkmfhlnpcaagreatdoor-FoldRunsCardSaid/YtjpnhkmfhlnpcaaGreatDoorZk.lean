/- The first check of a block, how it comes from another one, whether it was passed: the program's. Of programs that are little. -/
import Derived.Test.YtjpnhkmfhlnpcaaGreatDoorZj
import Derived.Test.YtjpnhkmfhlnpcaaGreatDoorZg
import Derived.Test.YtjpnhkmfhlnpcaaGreatDoorZh
set_option linter.unusedVariables false
set_option linter.unusedSimpArgs false
set_option linter.unusedSectionVars false
namespace Go.Proofs.YtjpnhkmfhlnpcaaGreatDoor
section
open Go.Proofs.Tryz
open Go.Proofs Go.Lib Go.Shelf Go.RowKit
variable {E:World}
set_option maxRecDepth 20000
theorem Et {f:ab} {x:bc} {m:Nat} (e:x.op=1) (h:m<(fL f x).length):(fL f x)[m]=bp f x.dst:=by
 have h2:(fL f x)[m]?=some (bp f x.dst):=by
  unfold fL at h ⊢
  rw[if_pos e] at h ⊢
  simp at h
  subst h;rfl
 rw[qq h] at h2
 exact Option.some.inj h2
theorem Eu {f:ab} {x:bc} {m:Nat} (e:¬x.op=1) (h:m<(fL f x).length) (h':m<(bw x.op).length):(fL f x)[m]=(bw x.op)[m]:=by
 have h2:(fL f x)[m]?=some ((bw x.op)[m]):=by
  unfold fL
  rw[if_neg e,qq h']
 rw[qq h] at h2
 exact Option.some.inj h2
theorem CK {f:ab} {t:cC} (h:bj f t=true):t.kind=0∨t.kind=1∨t.kind=2:=by
 unfold bj at h
 by_cases h0:t.kind=0
 ·exact .inl h0
 ·rw[if_neg h0] at h
  by_cases h1:t.kind=1
  ·exact .inr (.inl h1)
  ·rw[if_neg h1] at h
   by_cases h2:t.kind=2
   ·exact .inr (.inr h2)
   ·rw[if_neg h2] at h;cases h
set_option maxHeartbeats 8000000 in
theorem qP (f:ab) (hf:small f) (hS:bA f):aZ prog E 28 [.agg (bQ f)] (.bool (f.blocks.all (fw f))):=by
 have hn:=hf.2.2.1
 refine zo func28 Z (by decide) Z<|ah<|yb (cs:=_) Z Z Z<|ad Z<|z7<|zb<|ah<|aq ji Z Z0 Z Z<|aM Z6 Z<|ae jl Z<|aa Z<|z7<|zg<|y7 (γ:=Nat) [1,16,17] (fun i=>[(18,.int .i64 i)]) (fun i=>[]) (fun i=>i≤f.blocks.length∧(f.blocks.take i).all (fw f)=true) (fun i=>f.blocks.length - i) 0 aW aN (⟨qt _,Z⟩) ?_
 rintro i ⟨hi,hall⟩
 refine ah<|ay Z Z<|z7<|zb<|zm Z (fun ci=>?_) (fun ci=>?_)
 ·have hi2:i<f.blocks.length:=by simp at ci;omega
  obtain ⟨b,hbi⟩:∃b,f.blocks[i]=b:=⟨_,rfl⟩
  have hget:f.blocks[i]?=some b:=by rw[qq hi2,hbi]
  have hmem:b∈f.blocks:=hbi▸qu hi2
  obtain ⟨hb0,hb1,hb2,hb3,hb4⟩:=hf.2.2.2.2 b hmem
  obtain ⟨hPh,hIn,hTm⟩:=hS.2.2.2.2.2 b hmem
  have hbad:fw f b=false→f.blocks.all (fw f)=false:=fun h=>Bool.eq_false_iff.2 (dA hi2 (by rw[hbi];exact h))
  refine ze<|zb<|zg<|ah<|za (cH i jl jv Z Z Z hget)<|ac Zu jv Z Z<|zy (cs:=[.str ⟨#[]⟩,.raw (.slice none 0 0),.raw (.slice none 0 0),.int .i64 0,.int .i64 0,.int .i64 0,.int .i64 0]) Zc Z Z<|fun i4=>zt jv Z Z Z Z Z Z .head Z<|zx (yo (t:=4) Z .head)<|z7<|zb<|ah<|aq jh Z Zf Z Z<|aM Zv Z<|ae jx Z<|aa Z<|z7<|zg<|y7 (γ:=Nat) [1,4,16,17,18,23,24] (fun j=>[(25,.int .i64 j)]) (fun j=>[]) (fun j=>j≤b.phis.length∧(b.phis.take j).all (nt f)=true) (fun j=>b.phis.length - j) 0 aW aN (⟨qt _,Z⟩) ?_
  rintro j ⟨hj,hjall⟩
  refine ah<|ay Z Z<|z7<|zb<|zm Z (fun cj=>?_) (fun cj=>?_)
  ·have hj2:j<b.phis.length:=by simp at cj;omega
   obtain ⟨p,hp⟩:∃p,b.phis[j]=p:=⟨_,rfl⟩
   have hpm:p∈b.phis:=hp▸qu hj2
   obtain ⟨hpd,hpl,hpn,hpa,hpf⟩:=hPh p hpm
   have hpb:=(hb3 p hpm).1
   refine ze<|zb<|zg<|ah<|za (cH j jx Z1 Z Z Z (by rw[qq hj2,hp])) ?_
   refine ac Y0 Z1 Z Z<|zy (cs:=[.int .i64 0,.raw (.slice none 0 0),.raw (.slice none 0 0)]) Ze Z Z<|fun i6=>zt Z1 Z Z Z Z Z Z .head Z<|zx (yo (t:=6) Z .head)<|z7<|ah<|aq jq Z jm Z Z<|aM jw Z<|ae jd Z<|aa Z<|z7<|zg<|y7 (γ:=Nat) [1,4,6,16,17,18,23,24,25,30,31] (fun k=>[(32,.int .i64 k)]) (fun k=>[]) (fun k=>k≤p.args.length∧(p.args.take k).all (fun v=>decide (bp f v=bp f p.dst))=true) (fun k=>p.args.length - k) 0 aW aN (⟨qt _,Z⟩) ?_
   rintro k ⟨hk,hkall⟩
   refine ah<|ay Z Z<|z7<|zb<|zm Z (fun ck=>?_) (fun ck=>?_)
   ·have hk2:k<p.args.length:=by simp at ck;omega
    obtain ⟨v,hv⟩:∃v,p.args[k]=v:=⟨_,rfl⟩
    have hvv:=List.all_eq_true.1 hpa v (hv▸qu hk2)
    refine ze<|zb<|zg<|ah<|za (cH k jd je Z Z Z (by rw[qq hk2,hv])) ?_
    refine aE jj Z<|aw Z<|z7<|zb<|zq (fun j=>false) (by kernel_rfl) Z (zu (.rest _))<|ak 0 Z (yv js jk Z Z)<|ak 1 Z (d9 Z)<|ak 3 Z (yv js jk Z Z)<|ak 4 Z (eK jq Z je Z Z)<|ak 5 Z (gH jj Z)<|bO 2 Z<|zi (eP f v hvv) Z<|z7<|bO 6 Z<|zi (eP f p.dst hpd) Z<|z7<|ak 7 Z (yn Z Z)<|eG<|zr Z (fun cq=>?_) (fun cq=>?_)
    ·have hq:¬bp f v=bp f p.dst:=by simpa using cq
     have hph:nt f p=false:=by
      unfold nt
      rw[show (p.args.any fun v=>!decide (bp f v=bp f p.dst))=true from List.any_eq_true.2 ⟨v,hv▸qu hk2,by simp[hq]⟩];rfl
     refine ah<|ad Z<|z7<|zf<|zh (x:=.bool _) Z ?_
     rw[hbad (by unfold fw;rw[show b.phis.all (nt f)=false from Bool.eq_false_iff.2 (dA hj2 (by rw[hp];exact hph))];rfl)]
    ·have hq:bp f v=bp f p.dst:=by simpa using cq
     refine ze<|bi<|aC Z Z<|aa Z<|z7 ?_
     exact ⟨k+1,qJ,aW,aN,⟨hk2,bX hk2 hkall (by rw[hv];simp[hq])⟩,by omega⟩
   ·have hkn:k=p.args.length:=by simp at ck;omega
    rw[hkn,qv] at hkall
    have hph:nt f p=true:=by
     unfold nt
     rw[show (p.args.any fun v=>!decide (bp f v=bp f p.dst))=false from List.any_eq_false.2 fun v hv=>by have:=List.all_eq_true.1 hkall v hv;simpa using this];rfl
    refine zz<|bi<|aC Z Z<|aa Z<|z7 ?_
    exact ⟨j+1,iM,aW,aN,⟨hj2,bX hj2 hjall (by rw[hp];exact hph)⟩,by omega⟩
  ·have hjn:j=b.phis.length:=by simp at cj;omega
   subst hjn
   rw[qv] at hjall
   refine zz<|zb<|ah<|aq jh Z Zi Z Z<|aM Zy Z<|ae jz Z<|aa Z<|z7<|zg<|y7 (γ:=Nat) [1,4,16,17,18,47,48] (fun k=>[(49,.int .i64 k)]) (fun k=>[]) (fun k=>k≤b.insts.length∧(b.insts.take k).all (ic f)=true) (fun k=>b.insts.length - k) 0 aW aN (⟨qt _,Z⟩) ?_
   rintro k ⟨hk,hkall⟩
   refine ah<|ay Z Z<|z7<|zb<|zm Z (fun ck=>?_) (fun ck=>?_)
   ·have hk2:k<b.insts.length:=by simp at ck;omega
    obtain ⟨z,hz⟩:∃z,b.insts[k]=z:=⟨_,rfl⟩
    have hzm:z∈b.insts:=hz▸qu hk2
    have hI:=lQ (hIn z hzm)
    have hzl:=hb4 z hzm
    have hwl:=CJ hI
    have hdst:cQ z.op=true→bl f z.dst=true:=fun h=>by
     rcases hI.dst with ⟨d1,_⟩|⟨_,_,d3⟩
     ·rw[h] at d1;cases d1
     ·exact d3
    have hcopy:z.op=1→cQ z.op=true:=fun h=>by rw[h];rfl
    have hib:ic f z=false→f.blocks.all (fw f)=false:=fun h=>hbad (by unfold fw;rw[hjall,show b.insts.all (ic f)=false from Bool.eq_false_iff.2 (dA hk2 (by rw[hz];exact h))];rfl)
    refine ze<|zb<|zg<|ah<|za (cH k jz Z5 Z Z Z (by rw[qq hk2,hz])) ?_
    refine ac Yd Z5 Z Z<|zy (cs:=[.int .i64 0,.int .i64 0,.raw (.slice none 0 0),.int .i64 0]) Y3 Z Z<|fun i10=>zt Z5 Z Z Z Z Z Z .head Z<|zx (yo (t:=10) Z .head)<|z7<|zb<|yq (γ:=Nat) [1,4,10,16,17,18,47,48,49] (fun g=>[(11,.po g 0)]) (fun g=>[(g,.cells 97 (qF (bM z.op)))]) (fun g=>True) ?_ (fun _ _ h=>h) ?_
    ·refine zq (fun j=>false) (by kernel_rfl) Z (zu (.rest _))<|ak 1 Z (eK jp Z Zz Z Z)<|ak 2 Z (gH Y5 Z)<|qc (i:=0) (j:=5) Z Z (by kernel_rfl) ?_ ?_
     ·refine zi (ig) Z<|z7<|ak 3 Z (cH z.op.toNat Ym Y8 Z Z (by have:=hI.op;omega) (pq hI.op))<|ak 4 Z (yv isAgg97 Y8 Z Z)<|bO 5 Z<|zy (cs:=[.str ⟨#[]⟩,.str ⟨#[]⟩,.str ⟨#[]⟩]) zeroValue97 Z Z<|fun i11=>z7<|bO 6 Z<|zt Y8 Z Z Z Z Z Z .head Z<|z7<|eG ?_
      exact ⟨i11,tF,aW,aN,trivial⟩
     ·refine zy (cs:=[.str ⟨#[]⟩,.str ⟨#[]⟩,.str ⟨#[]⟩]) zeroValue97 Z Z<|fun i11=>z7<|bO 0 Z<|zi (ig) Z<|z7<|ak 3 Z (cH z.op.toNat Ym Y8 Z Z (by have:=hI.op;omega) (pq hI.op))<|ak 4 Z (yv isAgg97 Y8 Z Z)<|bO 6 Z<|zt Y8 Z Z Z Z Z Z .head Z<|z7<|eG ?_
      exact ⟨i11,tF,aW,aN,trivial⟩
    ·rintro i11 _
     refine zb<|ah<|aq jp Z jm Z Z<|aM jw Z<|ae jd Z<|aa Z<|z7<|zg<|y7 (γ:=Nat) [1,4,10,11,16,17,18,47,48,49,60] (fun m=>[(61,.int .i64 m)]) (fun m=>[(i11,.cells 97 (qF (bM z.op)))]) (fun m=>m≤z.args.length∧(z.args.take m).map (bp f)=(fL f z).take m) (fun m=>z.args.length - m) 0 aW aN (⟨qt _,by simp⟩) ?_
     rintro m ⟨hm,hmall⟩
     refine ah<|ay Z Z<|z7<|zb<|zm Z (fun cm=>?_) (fun cm=>?_)
     ·have hm2:m<z.args.length:=by simp at cm;omega
      have hmw:m<(fL f z).length:=by omega
      have hmt:m<(bw z.op).length:=by have:=hI.len;omega
      obtain ⟨v,hv⟩:∃v,z.args[m]=v:=⟨_,rfl⟩
      have hvv:=hI.args v (hv▸qu hm2)
      obtain ⟨c,hc,hct⟩:=vY hmt
      have hbadm:¬bp f v=(fL f z)[m]→f.blocks.all (fw f)=false:=fun h=>hib (by rw[pt hI,w5 (DW hm2 hmw (by rw[hv];exact h))];rfl)
      refine ze<|zb<|zg<|ah<|aa Z<|aw Z<|z7<|ah<|za (zc Zp Z Zh (by decide) Z Z)<|za (zj (c:=.str _) Zr Z ⟨_,.head⟩ Z)<|aa Z<|za (Gv.indexT (j:=m) Zg Z Z Z hc)<|zi (pp (c.toNat:Int)) Z<|aw Z<|z7<|zb<|ah<|za (zc Zp Z Zh (by decide) Z Z)<|za (zj (c:=.str _) Zr Z ⟨_,.head⟩ Z)<|za (yz Z Z)<|z7<|zr Z (fun cw=>?_) (fun cw=>?_)
      ·have ew:z.op=1:=(nX hI.op).1 (by simpa using cw)
       refine bi<|ac js jk Z Z<|aq jp Z je Z Z<|aE jj Z<|zi (eP f z.dst (hdst (hcopy ew))) Z<|aw Z<|z7<|zb<|zq (fun j=>false) (by kernel_rfl) Z (zu (.rest _))<|ak 0 Z (yv js jk Z Z)<|ak 1 Z (eK jp Z jm Z Z)<|ak 2 Z (lL jw Z)<|ak 3 Z (d9 Z)<|ak 4 Z (cH m jd je Z Z Z (by rw[qq hm2,hv])) ?_
       refine ak 5 Z (gH jj Z)<|ak 7 Z (d9 Z)<|bO 6 Z<|zi (eP f v hvv) Z<|z7<|ak 8 Z (yn Z Z)<|eG<|zr Z (fun cq=>?_) (fun cq=>?_)
       ·have hq:¬bp f v=bp f z.dst:=by simpa using cq
        refine ah<|ad Z<|z7<|zf<|zh (x:=.bool _) Z ?_
        rw[hbadm (by rw[Et ew hmw];exact hq)]
       ·have hq:bp f v=bp f z.dst:=by simpa using cq
        refine ze<|bi<|aC Z Z<|aa Z<|z7 ?_
        exact ⟨m+1,qJ,aW,aN,⟨hm2,gU hm2 hmw hmall (by rw[hv,Et ew hmw];exact hq)⟩,by omega⟩
      ·have ew:¬z.op=1:=fun e=>by have:=(nX hI.op).2 e;simp[this] at cw
       refine ze<|zb<|zq (fun j=>false) (by kernel_rfl) Z (zu (.rest _))<|ak 0 Z (yv js jk Z Z)<|ak 1 Z (eK jp Z jm Z Z)<|ak 2 Z (lL jw Z)<|ak 3 Z (d9 Z)<|ak 4 Z (cH m jd je Z Z Z (by rw[qq hm2,hv])) ?_
       refine ak 5 Z (gH jj Z)<|ak 7 Z (d9 Z)<|bO 6 Z<|zi (eP f v hvv) Z<|z7<|ak 8 Z (yn Z Z)<|eG<|zr Z (fun cq=>?_) (fun cq=>?_)
       ·have hq:¬bp f v=dx (c.toNat:Int):=by simpa using cq
        refine ah<|ad Z<|z7<|zf<|zh (x:=.bool _) Z ?_
        rw[hbadm (by rw[Eu ew hmw hmt,hct];exact hq)]
       ·have hq:bp f v=dx (c.toNat:Int):=by simpa using cq
        refine ze<|bi<|aC Z Z<|aa Z<|z7 ?_
        exact ⟨m+1,qJ,aW,aN,⟨hm2,gU hm2 hmw hmall (by rw[hv,Eu ew hmw hmt,hct];exact hq)⟩,by omega⟩
     ·have hmn:m=z.args.length:=by simp at cm;omega
      have hall2:z.args.map (bp f)=fL f z:=by rw[hmn,qv,hwl,qv] at hmall;exact hmall
      have hiw:=pt hI
      rw[w4 hall2,Bool.true_and] at hiw
      refine zz<|zb<|zq (fun j=>false) (by kernel_rfl) Z (zu (.r (.rest _)))<|ak 0 Z (zc Zp Z Zh (by decide) Z Z)<|ak 1 Z (zj (c:=.str _) Zr Z ⟨_,.head⟩ Z)<|ak 2 Z (Gv.neqT Z Z)<|ak 3 Z (DQ Z)<|bJ.case (s:=89) Z (fun c1=>?_) (fun c1=>?_)
      ·have d1:¬(bM z.op).2.2=⟨#[]⟩:=by simpa using c1
       have dm:cQ z.op=true:=by rw[kw,w5 d1];rfl
       obtain ⟨c,hc,hct⟩:=vZ d1
       refine fJ 4 Z Z Z c1 (zc Zp Z Zh (by decide) Z Z)<|fJ 5 Z Z Z c1 (zj (c:=.str _) Zr Z ⟨_,.head⟩ Z)<|fJ 6 Z Z Z c1 (Gv.neqT Z Z)<|ak 7 Z (DR Z c1 Z)<|ak 8 Z (DQ Z)<|bJ.case (s:=94) Z (fun c2=>?_) (fun c2=>?_)
       ·have ew:¬z.op=1:=fun e=>by have:=(nX hI.op).2 e;simp[this] at c2
        refine fJ 9 Z Z Z c2 (yv js jk Z Z)<|fJ 10 Z Z Z c2 (eK jp Z je Z Z)<|fJ 11 Z Z Z c2 (gH jj Z)<|fJ 13 Z Z Z c2 (zc Zp Z Zh (by decide) Z Z)<|fJ 14 Z Z Z c2 (zj (c:=.str _) Zr Z ⟨_,.head⟩ Z)<|fJ 15 Z Z Z c2 (Gv.indexT (j:=0) Zg Z Z Z hc)<|bO 12 Z<|z8 Z Z c2<|zi (eP f z.dst (hdst dm)) Z<|z7<|bO 16 Z<|z8 Z Z c2<|zi (pp (c.toNat:Int)) Z<|z7<|fJ 17 Z Z Z c2 (yn Z Z)<|ak 18 Z (DR Z c2 Z)<|eG<|zr Z (fun cq=>?_) (fun cq=>?_)
        ·have hq:¬bp f z.dst=dx (c.toNat:Int):=by simpa using cq
         refine ah<|ad Z<|z7<|zf<|zh (x:=.bool _) Z ?_
         rw[hib (by rw[hiw,dm,w5 ew,hct,w5 hq];rfl)]
        ·have hq:bp f z.dst=dx (c.toNat:Int):=by simpa using cq
         refine ze<|bi<|aC Z Z<|aa Z<|z7 ?_
         exact ⟨k+1,iM,aW,⟨_,(.drop (.refl _)),rfl⟩,⟨hk2,bX hk2 hkall (by rw[hz,hiw,hct,w4 hq];simp)⟩,by omega⟩
       ·have ew:z.op=1:=(nX hI.op).1 (by simpa using c2)
        refine d5 9 Z Z Z c2<|d5 10 Z Z Z c2<|d5 11 Z Z Z c2<|d5 12 Z Z Z c2<|d5 13 Z Z Z c2<|d5 14 Z Z Z c2<|d5 15 Z Z Z c2<|d5 16 Z Z Z c2<|d5 17 Z Z Z c2<|ak 18 Z (Ds Z c2 Z)<|eG<|yp Z Z<|ze<|bi<|aC Z Z<|aa Z<|z7 ?_
        exact ⟨k+1,iM,aW,⟨_,(.drop (.refl _)),rfl⟩,⟨hk2,bX hk2 hkall (by rw[hz,hiw,w4 ew];simp)⟩,by omega⟩
      ·have d1:(bM z.op).2.2=⟨#[]⟩:=by simpa using c1
       have dm:cQ z.op=false:=by rw[kw,w4 d1];rfl
       refine d5 4 Z Z Z c1<|d5 5 Z Z Z c1<|d5 6 Z Z Z c1<|ak 7 Z (Ds Z c1 Z)<|ak 8 Z (DQ Z)<|d5 9 Z Z Z Z<|d5 10 Z Z Z Z<|d5 11 Z Z Z Z<|d5 12 Z Z Z Z<|d5 13 Z Z Z Z<|d5 14 Z Z Z Z<|d5 15 Z Z Z Z<|d5 16 Z Z Z Z<|d5 17 Z Z Z Z<|ak 18 Z (Ds Z Z Z)<|eG<|yp Z Z<|ze<|bi<|aC Z Z<|aa Z<|z7 ?_
       exact ⟨k+1,iM,aW,⟨_,(.drop (.refl _)),rfl⟩,⟨hk2,bX hk2 hkall (by rw[hz,hiw,dm];rfl)⟩,by omega⟩
   ·have hkn:k=b.insts.length:=by simp at ck;omega
    rw[hkn,qv] at hkall
    refine zz<|ah<|aq jh Z Z4 Z Z<|ac Yo Z4 Z Z<|zy (cs:=[.int .i64 0,.int .i64 0,.int .i64 0,.int .i64 0]) zeroValue58 Z Z<|fun i14=>zt Z4 Z Z Z Z Z Z .head Z<|zx (yo (t:=14) Z .head)<|z7<|zb<|yq (γ:=Bool) [1,16,17,18] (fun u=>[(152,.bool u)]) (fun u=>[]) (fun u=>u=!cD f b.term) ?_ (fun _ _ h=>h) ?_
    ·have hk3:=CK hTm
     refine bi<|aq jg Z Zn Z Z<|aE Zs Z<|ax Z Z<|ai Z<|zk (s:=111) Z (fun c1=>?_) (fun c1=>?_)
     ·refine z8 Z Z c1<|ac js jk Z Z<|z8 Z Z c1<|aq jg Z je Z Z<|z8 Z Z c1<|aE jj Z<|z8 Z Z c1<|zi (eP f b.term.var (f8 hTm (by simp_all))) Z<|z8 Z Z c1<|za (yn Z Z)<|ap Z c1 Z<|ai Z<|zk (s:=118) Z (fun c2=>?_) (fun c2=>?_)
      ·refine z6 Z Z c2<|z6 Z Z c2<|z6 Z Z c2<|z6 Z Z c2<|zd Z Z<|zd Z Z<|zd Z Z<|zd Z Z<|zd Z Z<|zd Z Z<|zd Z Z<|zd Z Z<|zd Z Z<|zd Z Z<|zd Z Z<|zd Z Z<|zd Z Z<|zd Z Z<|zd Z Z<|zd Z Z<|zd Z Z<|z6 Z Z c2<|ap Z c2 Z<|ai Z<|z6 Z Z Z<|z6 Z Z Z<|z6 Z Z Z<|z6 Z Z Z<|zd Z Z<|zd Z Z<|zd Z Z<|zd Z Z<|z6 Z Z Z<|ap Z Z Z<|z7 ?_
       exact ⟨_,gY,aW,aN,by simp_all[cD]<;>omega⟩
      ·refine z8 Z Z c2<|aq jg Z Zn Z Z<|z8 Z Z c2<|aE Zs Z<|z8 Z Z c2<|ax Z Z<|z8 Z Z c2<|ai Z<|zk (s:=122) Z (fun c3=>?_) (fun c3=>?_)
       ·refine z8 Z Z c3<|ac js jk Z Z<|z8 Z Z c3<|aq jg Z je Z Z<|z8 Z Z c3<|aE jj Z<|z8 Z Z c3<|zi (eP f b.term.var (f8 hTm (by simp_all))) Z<|z8 Z Z c3<|za (yn Z Z)<|z8 Z Z c3<|ai Z<|zk (s:=128) Z (fun c4=>?_) (fun c4=>?_)
        ·refine z6 Z Z c4<|z6 Z Z c4<|z6 Z Z c4<|z6 Z Z c4<|z8 Z Z c3<|ap Z c4 Z<|z8 Z Z c3<|ai Z<|z6 Z Z Z<|z6 Z Z Z<|z6 Z Z Z<|z6 Z Z Z<|z8 Z Z c3<|ap Z Z Z<|z8 Z Z c2<|ap Z c3 Z<|al Z c2 Z<|ai Z<|z6 Z Z Z<|z6 Z Z Z<|z6 Z Z Z<|z6 Z Z Z<|zd Z Z<|zd Z Z<|zd Z Z<|zd Z Z<|z6 Z Z Z<|ap Z Z Z<|z7 ?_
         exact ⟨_,gY,aW,aN,by simp_all[cD]<;>omega⟩
        ·refine z8 Z Z c4<|aq jg Z Z2 Z Z<|z8 Z Z c4<|za (yw (j:=0) ju je Z Z Z (by decide) Z)<|z8 Z Z c4<|aE jj Z<|z8 Z Z c4<|ax Z Z<|z8 Z Z c3<|al Z c4 Z<|z8 Z Z c3<|ai Z<|zk (s:=134) Z (fun c5=>?_) (fun c5=>?_)
         ·refine z6 Z Z c5<|z6 Z Z c5<|z6 Z Z c5<|z6 Z Z c5<|z8 Z Z c3<|ap Z c5 Z<|z8 Z Z c2<|ap Z c3 Z<|al Z c2 Z<|ai Z<|z6 Z Z Z<|z6 Z Z Z<|z6 Z Z Z<|z6 Z Z Z<|zd Z Z<|zd Z Z<|zd Z Z<|zd Z Z<|z6 Z Z Z<|ap Z Z Z<|z7 ?_
          exact ⟨_,gY,aW,aN,by simp_all[cD]<;>omega⟩
         ·refine z8 Z Z c5<|aq jg Z Z2 Z Z<|z8 Z Z c5<|za (yw (j:=1) ju je Z Z Z (by decide) Z)<|z8 Z Z c5<|aE jj Z<|z8 Z Z c5<|ax Z Z<|z8 Z Z c3<|al Z c5 Z<|z8 Z Z c2<|ap Z c3 Z<|al Z c2 Z<|ai Z<|zk (s:=142) Z (fun c6=>?_) (fun c6=>?_)
          ·refine z6 Z Z c6<|z6 Z Z c6<|z6 Z Z c6<|z6 Z Z c6<|zd Z Z<|zd Z Z<|zd Z Z<|zd Z Z<|z6 Z Z c6<|ap Z c6 Z<|z7 ?_
           exact ⟨_,gY,aW,aN,by simp_all[cD]<;>omega⟩
          ·refine z8 Z Z c6<|aq jg Z Zn Z Z<|z8 Z Z c6<|aE Zs Z<|z8 Z Z c6<|ax Z Z<|z8 Z Z c6<|ai Z<|zk (s:=146) Z (fun c7=>?_) (fun c7=>?_)
           ·refine z8 Z Z c7<|aq jg Z Z2 Z Z<|z8 Z Z c7<|za (yw (j:=0) ju je Z Z Z (by decide) Z)<|z8 Z Z c7<|aE jj Z<|z8 Z Z c7<|ax Z Z<|z8 Z Z c6<|ap Z c7 Z<|al Z c6 Z<|z7 ?_
            exact ⟨_,gY,aW,aN,by simp_all[cD]<;>omega⟩
           ·refine z6 Z Z c7<|z6 Z Z c7<|z6 Z Z c7<|z6 Z Z c7<|z8 Z Z c6<|al Z c7 Z<|al Z c6 Z<|z7 ?_
            exact ⟨_,gY,aW,aN,by simp_all[cD]<;>omega⟩
       ·refine z6 Z Z c3<|z6 Z Z c3<|z6 Z Z c3<|z6 Z Z c3<|z6 Z Z c3<|z6 Z Z c3<|zd Z Z<|zd Z Z<|zd Z Z<|zd Z Z<|z6 Z Z c3<|z6 Z Z c3<|zd Z Z<|zd Z Z<|zd Z Z<|zd Z Z<|z6 Z Z c3<|z8 Z Z c2<|al Z c3 Z<|al Z c2 Z<|ai Z<|z8 Z Z Z<|aq jg Z Zn Z Z<|z8 Z Z Z<|aE Zs Z<|z8 Z Z Z<|ax Z Z<|z8 Z Z Z<|ai Z<|zk (s:=146) Z (fun c8=>?_) (fun c8=>?_)
        ·refine z8 Z Z c8<|aq jg Z Z2 Z Z<|z8 Z Z c8<|za (yw (j:=0) ju je Z Z Z (by decide) Z)<|z8 Z Z c8<|aE jj Z<|z8 Z Z c8<|ax Z Z<|z8 Z Z Z<|ap Z c8 Z<|al Z Z Z<|z7 ?_
         exact ⟨_,gY,aW,aN,by simp_all[cD]<;>omega⟩
        ·refine z6 Z Z c8<|z6 Z Z c8<|z6 Z Z c8<|z6 Z Z c8<|z8 Z Z Z<|al Z c8 Z<|al Z Z Z<|z7 ?_
         exact ⟨_,gY,aW,aN,by simp_all[cD]<;>omega⟩
     ·refine z6 Z Z c1<|z6 Z Z c1<|z6 Z Z c1<|z6 Z Z c1<|z6 Z Z c1<|al Z c1 Z<|ai Z<|z8 Z Z Z<|aq jg Z Zn Z Z<|z8 Z Z Z<|aE Zs Z<|z8 Z Z Z<|ax Z Z<|z8 Z Z Z<|ai Z<|zk (s:=122) Z (fun c9=>?_) (fun c9=>?_)
      ·refine z8 Z Z c9<|ac js jk Z Z<|z8 Z Z c9<|aq jg Z je Z Z<|z8 Z Z c9<|aE jj Z<|z8 Z Z c9<|zi (eP f b.term.var (f8 hTm (by simp_all))) Z<|z8 Z Z c9<|za (yn Z Z)<|z8 Z Z c9<|ai Z<|zk (s:=128) Z (fun c10=>?_) (fun c10=>?_)
       ·refine z6 Z Z c10<|z6 Z Z c10<|z6 Z Z c10<|z6 Z Z c10<|z8 Z Z c9<|ap Z c10 Z<|z8 Z Z c9<|ai Z<|z6 Z Z Z<|z6 Z Z Z<|z6 Z Z Z<|z6 Z Z Z<|z8 Z Z c9<|ap Z Z Z<|z8 Z Z Z<|ap Z c9 Z<|al Z Z Z<|ai Z<|z6 Z Z Z<|z6 Z Z Z<|z6 Z Z Z<|z6 Z Z Z<|zd Z Z<|zd Z Z<|zd Z Z<|zd Z Z<|z6 Z Z Z<|ap Z Z Z<|z7 ?_
        exact ⟨_,gY,aW,aN,by simp_all[cD]<;>omega⟩
       ·refine z8 Z Z c10<|aq jg Z Z2 Z Z<|z8 Z Z c10<|za (yw (j:=0) ju je Z Z Z (by decide) Z)<|z8 Z Z c10<|aE jj Z<|z8 Z Z c10<|ax Z Z<|z8 Z Z c9<|al Z c10 Z<|z8 Z Z c9<|ai Z<|zk (s:=134) Z (fun c11=>?_) (fun c11=>?_)
        ·refine z6 Z Z c11<|z6 Z Z c11<|z6 Z Z c11<|z6 Z Z c11<|z8 Z Z c9<|ap Z c11 Z<|z8 Z Z Z<|ap Z c9 Z<|al Z Z Z<|ai Z<|z6 Z Z Z<|z6 Z Z Z<|z6 Z Z Z<|z6 Z Z Z<|zd Z Z<|zd Z Z<|zd Z Z<|zd Z Z<|z6 Z Z Z<|ap Z Z Z<|z7 ?_
         exact ⟨_,gY,aW,aN,by simp_all[cD]<;>omega⟩
        ·refine z8 Z Z c11<|aq jg Z Z2 Z Z<|z8 Z Z c11<|za (yw (j:=1) ju je Z Z Z (by decide) Z)<|z8 Z Z c11<|aE jj Z<|z8 Z Z c11<|ax Z Z<|z8 Z Z c9<|al Z c11 Z<|z8 Z Z Z<|ap Z c9 Z<|al Z Z Z<|ai Z<|zk (s:=142) Z (fun c12=>?_) (fun c12=>?_)
         ·refine z6 Z Z c12<|z6 Z Z c12<|z6 Z Z c12<|z6 Z Z c12<|zd Z Z<|zd Z Z<|zd Z Z<|zd Z Z<|z6 Z Z c12<|ap Z c12 Z<|z7 ?_
          exact ⟨_,gY,aW,aN,by simp_all[cD]<;>omega⟩
         ·refine z8 Z Z c12<|aq jg Z Zn Z Z<|z8 Z Z c12<|aE Zs Z<|z8 Z Z c12<|ax Z Z<|z8 Z Z c12<|ai Z<|zk (s:=146) Z (fun c13=>?_) (fun c13=>?_)
          ·refine z8 Z Z c13<|aq jg Z Z2 Z Z<|z8 Z Z c13<|za (yw (j:=0) ju je Z Z Z (by decide) Z)<|z8 Z Z c13<|aE jj Z<|z8 Z Z c13<|ax Z Z<|z8 Z Z c12<|ap Z c13 Z<|al Z c12 Z<|z7 ?_
           exact ⟨_,gY,aW,aN,by simp_all[cD]<;>omega⟩
          ·refine z6 Z Z c13<|z6 Z Z c13<|z6 Z Z c13<|z6 Z Z c13<|z8 Z Z c12<|al Z c13 Z<|al Z c12 Z<|z7 ?_
           exact ⟨_,gY,aW,aN,by simp_all[cD]<;>omega⟩
      ·refine z6 Z Z c9<|z6 Z Z c9<|z6 Z Z c9<|z6 Z Z c9<|z6 Z Z c9<|z6 Z Z c9<|zd Z Z<|zd Z Z<|zd Z Z<|zd Z Z<|z6 Z Z c9<|z6 Z Z c9<|zd Z Z<|zd Z Z<|zd Z Z<|zd Z Z<|z6 Z Z c9<|z8 Z Z Z<|al Z c9 Z<|al Z Z Z<|ai Z<|z8 Z Z Z<|aq jg Z Zn Z Z<|z8 Z Z Z<|aE Zs Z<|z8 Z Z Z<|ax Z Z<|z8 Z Z Z<|ai Z<|zk (s:=146) Z (fun c14=>?_) (fun c14=>?_)
       ·refine z8 Z Z c14<|aq jg Z Z2 Z Z<|z8 Z Z c14<|za (yw (j:=0) ju je Z Z Z (by decide) Z)<|z8 Z Z c14<|aE jj Z<|z8 Z Z c14<|ax Z Z<|z8 Z Z Z<|ap Z c14 Z<|al Z Z Z<|z7 ?_
        exact ⟨_,gY,aW,aN,by simp_all[cD]<;>omega⟩
       ·refine z6 Z Z c14<|z6 Z Z c14<|z6 Z Z c14<|z6 Z Z c14<|z8 Z Z Z<|al Z c14 Z<|al Z Z Z<|z7 ?_
        exact ⟨_,gY,aW,aN,by simp_all[cD]<;>omega⟩
    ·rintro u hu
     subst hu
     refine zr Z (fun ct=>?_) (fun ct=>?_)
     ·have dt:cD f b.term=false:=by simpa using ct
      refine ah<|ad Z<|z7<|zf<|zh (x:=.bool _) Z ?_
      rw[hbad (by unfold fw;rw[hjall,hkall,dt];rfl)]
     ·have dt:cD f b.term=true:=by simpa using ct
      refine ze<|bi<|aC Z Z<|aa Z<|z7 ?_
      exact ⟨i+1,hZ,aW,aN,⟨hi2,bX hi2 hall (by rw[hbi];unfold fw;rw[hjall,hkall,dt];rfl)⟩,by omega⟩
 ·have hin:i=f.blocks.length:=by simp at ci;omega
  rw[hin,qv] at hall
  refine zz<|ah<|ad Z<|z7<|zf<|zh (x:=.bool _) Z ?_
  rw[hall]
end
section
open Go.Proofs.Tryz
open Go.Proofs Go.Lib Go.Shelf Go.RowKit
set_option maxRecDepth 20000
variable {E:World}
theorem l3 {α:Type} (g:α→Nat):∀(l:List α) (k:Nat),((l.take k).map g).sum≤(l.map g).sum
 |[],k=>by simp
 |x::l,0=>by simp
 |x::l,k+1=>by
  have:=l3 g l k
  simp only[List.take_succ_cons,List.map_cons,List.sum_cons];omega
theorem GC (l:List bu) (k:Nat):wP (l.take k)≤wP l:=l3 _ l k
theorem GD (l:List bc) (k:Nat):wX (l.take k)≤wX l:=l3 _ l k
theorem mI {f:ab} (h:iP f) {k:Nat} (hk:k<f.blocks.length):wV f.vars+vG (f.blocks.take k)+wB f.blocks[k]≤4000:=by
 have h1:=h.2.2.2.2.2 (fun e=>by rw[e] at hk;exact absurd hk (Nat.not_lt_zero _))
 have h2:vG (f.blocks.take (k+1))≤vG f.blocks:=l3 _ f.blocks (k+1)
 rw[tP hk] at h2
 omega
set_option maxHeartbeats 8000000 in
theorem um (f:ab) (hf:m1 f):bY prog E 6 [.agg (bQ f)] [] (fun x _=>∃b:Bool,x=.bool b∧(b=true↔iP f)):=by
 obtain ⟨hf1,hf2,hf3,hf4⟩:=hf
 have hl1:=hf1.lt
 have hl3:=hf3.lt
 refine zo func6 Z (by decide) Z<|ah<|yb (cs:=_) Z Z Z<|ad Z<|z7<|zb<|zb<|yq (γ:=Unit) [1] (fun u=>[(27,.bool (Cq f))]) (fun u=>[]) (fun u=>True) ?_ (fun _ _ h=>h) ?_
 ·refine bi<|aq ji Z Y6 Z Z<|aM Yg Z<|ae Zb Z<|za (yy Z Z)<|ai Z<|zk (s:=16) Z (fun c1=>?_) (fun c1=>?_)
  ·refine z6 Z Z c1<|z6 Z Z c1<|z6 Z Z c1<|z6 Z Z c1<|ap Z c1 Z<|ai Z<|z6 Z Z Z<|z6 Z Z Z<|z6 Z Z Z<|z6 Z Z Z<|ap Z Z Z<|z7 ?_
   exact ⟨(),aW,⟨jb (by simp_all[Cq]<;>grind),trivial⟩,aN,trivial⟩
  ·refine z8 Z Z c1<|aq ji Z Z0 Z Z<|z8 Z Z c1<|aM Z6 Z<|z8 Z Z c1<|ae jl Z<|z8 Z Z c1<|za (yy Z Z)<|al Z c1 Z<|ai Z<|zk (s:=22) Z (fun c2=>?_) (fun c2=>?_)
   ·refine z6 Z Z c2<|z6 Z Z c2<|z6 Z Z c2<|z6 Z Z c2<|ap Z c2 Z<|z7 ?_
    exact ⟨(),aW,⟨jb (by simp_all[Cq]<;>grind),trivial⟩,aN,trivial⟩
   ·refine z8 Z Z c2<|aq ji Z jm Z Z<|z8 Z Z c2<|aM jw Z<|z8 Z Z c2<|ae jd Z<|z8 Z Z c2<|za (yy Z Z)<|al Z c2 Z<|z7 ?_
    exact ⟨(),aW,⟨jb (by simp_all[Cq]<;>grind),trivial⟩,aN,trivial⟩
 ·rintro _ _
  refine zr Z (fun c1=>?_) (fun c1=>?_)
  ·refine ah<|ad Z<|z7<|zf<|zh (x:=.bool _) Z ?_
   exact ⟨_,rfl,fun h=>(by cases h),fun hl=>absurd hl (fun hl=>by have h1:=hl.1;have h2:=hl.2.1;have h3:=hl.2.2.1;unfold Cq at c1;simp at c1;omega)⟩
  ·have hsz:f.vars.length≤100∧f.blocks.length≤40∧f.params.length≤20:=by unfold Cq at c1;simp at c1;omega
   refine ze<|ah<|aw Z<|z7<|zb<|ah<|aq ji Z Y6 Z Z<|aM Yg Z<|ae Zb Z<|aa Z<|z7<|zg<|y7 (γ:=Nat) [1,29,30] (fun k=>[(31,.int .i64 k),(3,.int .i64 (wV (f.vars.take k)))]) (fun k=>[]) (fun k=>k≤f.vars.length∧wV (f.vars.take k)≤400*k∧∀v∈f.vars.take k,v.name.size≤400) (fun k=>f.vars.length - k) 0 eE aN (⟨qt _,Nat.le_refl _,by simp⟩) ?_
   rintro k ⟨hk,hw,hv⟩
   refine ah<|ay Z Z<|z7<|zb<|zm Z (fun ck=>?_) (fun ck=>?_)
   ·have hk1:k<f.vars.length:=by omega
    have hs:=Ge hk1
    refine ze<|zb<|zg<|ah<|za (q9 Zb Y7 Z Z Z (qq (by omega)))<|ac isAgg66 Y7 Z Z<|zy (cs:=[.str ⟨#[]⟩,.int .i64 0]) zeroValue66 Z Z<|fun i5=>zt Y7 Z Z Z Z Z Z .head Z<|z7<|zb<|ah<|za (zc Zm Z Zh (by decide) Z Z)<|za (zj (c:=.str _) Zr Z ⟨_,.head⟩ Z)<|za (Gv.lenT Zg Z)<|za (yy Z Z)<|z7<|zm Z (fun cn=>?_) (fun cn=>?_)
    ·refine ah<|ad Z<|z7<|zf<|zh (x:=.bool _) Z ?_
     exact ⟨_,rfl,fun h=>(by cases h),fun hl=>absurd hl (fun hl=>by have h1:=hl.2.2.2.1 _ (qu hk1);omega)⟩
    ·refine ze<|bi<|aa Z<|za (zc Zm Z Zh (by decide) Z Z)<|za (zj (c:=.str _) Zr Z ⟨_,.head⟩ Z)<|za (Gv.lenT Zg Z)<|aC Z Z<|aw Z<|z7<|bi<|aC Z Z<|aa Z<|z7 ?_
     exact ⟨k+1,hZ,⟨rfl,congrArg (AV.int .i64) (by rw[hs];omega),trivial⟩,⟨_,(.drop (.refl _)),rfl⟩,⟨hk1,by omega,dP hk1 hv (by omega)⟩,by omega⟩
   ·obtain rfl:k=f.vars.length:=by omega
    rw[qv] at hw hv
    rw[qv]
    refine zz<|zb<|ah<|aq ji Z Z0 Z Z<|aM Z6 Z<|ae jl Z<|aa Z<|z7<|zg<|y7 (γ:=Nat) [46,47] (fun k=>[(48,.int .i64 k),(3,.int .i64 (wV f.vars+vG (f.blocks.take k):Nat))]) (fun k=>[]) (fun k=>k≤f.blocks.length∧(0<k→wV f.vars+vG (f.blocks.take k)≤4000)∧vG (f.blocks.take k)≤4000∧∀b∈f.blocks.take k,xj b) (fun k=>f.blocks.length - k) 0 eE aN (⟨qt _,by omega,by simp[vG],by simp⟩) ?_
    rintro k ⟨hk,hw2,hw3,hb⟩
    refine ah<|ay Z Z<|z7<|zb<|zm Z (fun ck=>?_) (fun ck=>?_)
    ·have hk1:k<f.blocks.length:=by omega
     obtain ⟨hb1,hb2,hb3,hb4⟩:=hf4 _ (qu hk1)
     have hs:=tP hk1
     refine ze<|zb<|zg<|ah<|za (q9 jl jv Z Z Z (qq (by omega)))<|ac Zu jv Z Z<|zy (cs:=[.str ⟨#[]⟩,.raw (.slice none 0 0),.raw (.slice none 0 0),.int .i64 0,.int .i64 0,.int .i64 0,.int .i64 0]) Zc Z Z<|fun i7=>zt jv Z Z Z Z Z Z .head Z<|z7<|zb<|zb<|yq (γ:=Unit) [3,7,46,47,48] (fun u=>[(67,.bool (Cr f.blocks[k]))]) (fun u=>[(i7,.cells 60 (bk f.blocks[k]))]) (fun u=>True) ?_ (fun _ _ h=>h) ?_
     ·refine bi<|za (zc jh Z Zh (by decide) Z Z)<|za (zj (c:=.str _) Zr Z ⟨_,.head⟩ Z)<|za (Gv.lenT Zg Z)<|za (yy Z Z)<|ai Z<|zk (s:=56) Z (fun c3=>?_) (fun c3=>?_)
      ·refine z6 Z Z c3<|z6 Z Z c3<|z6 Z Z c3<|z6 Z Z c3<|ap Z c3 Z<|ai Z<|z6 Z Z Z<|z6 Z Z Z<|z6 Z Z Z<|z6 Z Z Z<|ap Z Z Z<|z7 ?_
       exact ⟨(),vv,⟨jb (by simp_all[Cr]<;>grind),trivial⟩,aN,trivial⟩
      ·refine z8 Z Z c3<|za (zc jh Z Zf (by decide) Z Z)<|z8 Z Z c3<|za (zj (c:=.fro _ _) Zv Z ⟨_,.head⟩ Z)<|z8 Z Z c3<|ae jx Z<|z8 Z Z c3<|za (yy Z Z)<|al Z c3 Z<|ai Z<|zk (s:=62) Z (fun c4=>?_) (fun c4=>?_)
       ·refine z6 Z Z c4<|z6 Z Z c4<|z6 Z Z c4<|z6 Z Z c4<|ap Z c4 Z<|z7 ?_
        exact ⟨(),vv,⟨jb (by simp_all[Cr]<;>grind),trivial⟩,aN,trivial⟩
       ·refine z8 Z Z c4<|za (zc jh Z Zi (by decide) Z Z)<|z8 Z Z c4<|za (zj (c:=.fro _ _) Zy Z ⟨_,.head⟩ Z)<|z8 Z Z c4<|ae jz Z<|z8 Z Z c4<|za (yy Z Z)<|al Z c4 Z<|z7 ?_
        exact ⟨(),vv,⟨jb (by simp_all[Cr]<;>grind),trivial⟩,aN,trivial⟩
     ·rintro _ _
      refine zr Z (fun c2=>?_) (fun c2=>?_)
      ·refine ah<|ad Z<|z7<|zf<|zh (x:=.bool _) Z ?_
       exact ⟨_,rfl,fun h=>(by cases h),fun hl=>absurd hl (fun hl=>by obtain ⟨h1,h2,h3,_⟩:=hl.2.2.2.2.1 _ (qu hk1);unfold Cr at c2;simp at c2;omega)⟩
      ·have hsb:f.blocks[k].name.size≤400∧f.blocks[k].phis.length≤400∧f.blocks[k].insts.length≤400:=by unfold Cr at c2;simp at c2;omega
       refine ze<|ah<|aa Z<|za (zc jh Z Zh (by decide) Z Z)<|za (zj (c:=.str _) Zr Z ⟨_,.head⟩ Z)<|za (Gv.lenT Zg Z)<|za (zc jh Z Zf (by decide) Z Z)<|za (zj (c:=.fro _ _) Zv Z ⟨_,.head⟩ Z)<|ae jx Z<|za (zc jh Z Zi (by decide) Z Z)<|za (zj (c:=.fro _ _) Zy Z ⟨_,.head⟩ Z)<|ae jz Z<|aC Z Z<|za (Gv.mul Z Z (by unfold ko;omega))<|aC Z Z<|aC Z Z<|aw Z<|z7<|zb<|ah<|za (zc jh Z Zf (by decide) Z Z)<|za (zj (c:=.fro _ _) Zv Z ⟨_,.head⟩ Z)<|ae jx Z<|aa Z<|z7<|zg<|y7 (γ:=Nat) [7,46,47,48,83,84] (fun m=>[(85,.int .i64 m),(3,.int .i64 (wV f.vars+vG (f.blocks.take k)+(f.blocks[k].name.size+10*(f.blocks[k].phis.length+f.blocks[k].insts.length))+wP (f.blocks[k].phis.take m):Nat))]) (fun m=>[(i7,.cells 60 (bk f.blocks[k]))]) (fun m=>m≤f.blocks[k].phis.length∧wP (f.blocks[k].phis.take m)≤800*m∧∀p∈f.blocks[k].phis.take m,p.args.length≤400∧p.from_.length≤400) (fun m=>f.blocks[k].phis.length - m) 0 ⟨Z,(congrArg (AV.int .i64) (by simp[wP]<;>omega)),trivial⟩ aN (⟨qt _,by simp[wP],by simp⟩) ?_
       rintro m ⟨hm,hwp,hp⟩
       refine ah<|ay Z Z<|z7<|zb<|zm Z (fun cm=>?_) (fun cm=>?_)
       ·have hm1:m<f.blocks[k].phis.length:=by omega
        obtain ⟨hq1,hq2⟩:=hb3 _ (qu hm1)
        have hl6:=hq1.lt
        have hl7:=hq2.lt
        have hs2:=Gf hm1
        refine ze<|zb<|zg<|ah<|za (q9 jx Z1 Z Z Z (qq (by omega)))<|ac Y0 Z1 Z Z<|zy (cs:=[.int .i64 0,.raw (.slice none 0 0),.raw (.slice none 0 0)]) Ze Z Z<|fun i9=>zt Z1 Z Z Z Z Z Z .head Z<|z7<|zb<|zb<|yq (γ:=Unit) [3,7,9,46,47,48,83,84,85] (fun u=>[(102,.bool (decide ((4000:Int)<(wV f.vars+vG (f.blocks.take k)+(f.blocks[k].name.size+10*(f.blocks[k].phis.length+f.blocks[k].insts.length))+wP (f.blocks[k].phis.take m):Nat))||(decide ((400:Int)<f.blocks[k].phis[m].args.length)||decide ((400:Int)<f.blocks[k].phis[m].from_.length))))]) (fun u=>[(i9,.cells 73 (bd f.blocks[k].phis[m])),(i7,.cells 60 (bk f.blocks[k]))]) (fun u=>True) ?_ (fun _ _ h=>h) ?_
        ·refine bi<|aa Z<|za (yy Z Z)<|ai Z<|zk (s:=91) Z (fun c5=>?_) (fun c5=>?_)
         ·refine z6 Z Z c5<|z6 Z Z c5<|z6 Z Z c5<|z6 Z Z c5<|ap Z c5 Z<|ai Z<|z6 Z Z Z<|z6 Z Z Z<|z6 Z Z Z<|z6 Z Z Z<|ap Z Z Z<|z7 ?_
          exact ⟨(),tF,⟨jb (by simp_all<;>grind),trivial⟩,aN,trivial⟩
         ·refine z8 Z Z c5<|za (zc jq Z jm (by decide) Z Z)<|z8 Z Z c5<|za (zj (c:=.fro _ _) jw Z ⟨_,.head⟩ Z)<|z8 Z Z c5<|ae jd Z<|z8 Z Z c5<|za (yy Z Z)<|al Z c5 Z<|ai Z<|zk (s:=97) Z (fun c6=>?_) (fun c6=>?_)
          ·refine z6 Z Z c6<|z6 Z Z c6<|z6 Z Z c6<|z6 Z Z c6<|ap Z c6 Z<|z7 ?_
           exact ⟨(),tF,⟨jb (by simp_all<;>grind),trivial⟩,aN,trivial⟩
          ·refine z8 Z Z c6<|za (zc jq Z jm (by decide) Z Z)<|z8 Z Z c6<|za (zj (c:=.fro _ _) jw Z ⟨_,.head⟩ Z)<|z8 Z Z c6<|ae jd Z<|z8 Z Z c6<|za (yy Z Z)<|al Z c6 Z<|z7 ?_
           exact ⟨(),tF,⟨jb (by simp_all<;>grind),trivial⟩,aN,trivial⟩
        ·rintro _ _
         refine zr Z (fun cp=>?_) (fun cp=>?_)
         ·refine ah<|ad Z<|z7<|zf<|zh (x:=.bool _) Z ?_
          exact ⟨_,rfl,fun h=>(by cases h),fun hl=>absurd hl (fun hl=>by obtain ⟨_,_,_,h4,_⟩:=hl.2.2.2.2.1 _ (qu hk1);have h5:=h4 _ (qu hm1);have h9:=mI hl hk1;have hwb:wB f.blocks[k]=f.blocks[k].name.size+10*(f.blocks[k].phis.length+f.blocks[k].insts.length)+wP f.blocks[k].phis+wX f.blocks[k].insts:=rfl;have h10:=GC f.blocks[k].phis m;simp only[Bool.or_eq_true,wa] at cp;omega)⟩
         ·rcases Bool.or_eq_false_iff.1 cp with ⟨a1,a2⟩
          rcases Bool.or_eq_false_iff.1 a2 with ⟨a3,a4⟩
          have a3:=of_decide_eq_false a3
          have a4:=of_decide_eq_false a4
          refine ze<|bi<|aa Z<|za (zc jq Z jm (by decide) Z Z)<|za (zj (c:=.fro _ _) jw Z ⟨_,.head⟩ Z)<|ae jd Z<|za (zc jq Z jm (by decide) Z Z)<|za (zj (c:=.fro _ _) jw Z ⟨_,.head⟩ Z)<|ae jd Z<|aC Z Z<|aC Z Z<|aw Z<|z7<|bi<|aC Z Z<|aa Z<|z7 ?_
          exact ⟨m+1,FX,⟨rfl,congrArg (AV.int .i64) (by rw[hs2];omega),trivial⟩,⟨_,(.drop (.refl _)),rfl⟩,⟨hm1,by omega,dP hm1 hp ⟨by omega,by omega⟩⟩,by omega⟩
       ·obtain rfl:m=f.blocks[k].phis.length:=by omega
        rw[qv] at hwp hp
        rw[qv]
        refine zz<|zb<|ah<|za (zc jh Z Zi (by decide) Z Z)<|za (zj (c:=.fro _ _) Zy Z ⟨_,.head⟩ Z)<|ae jz Z<|aa Z<|z7<|zg<|y7 (γ:=Nat) [46,47,48,114,115] (fun m=>[(116,.int .i64 m),(3,.int .i64 (wV f.vars+vG (f.blocks.take k)+(f.blocks[k].name.size+10*(f.blocks[k].phis.length+f.blocks[k].insts.length))+wP f.blocks[k].phis+wX (f.blocks[k].insts.take m):Nat))]) (fun m=>[(i7,.cells 60 (bk f.blocks[k]))]) (fun m=>m≤f.blocks[k].insts.length∧wX (f.blocks[k].insts.take m)≤400*m∧∀p∈f.blocks[k].insts.take m,p.args.length≤400) (fun m=>f.blocks[k].insts.length - m) 0 ⟨Z,(congrArg (AV.int .i64) (by simp[wX]<;>omega)),trivial⟩ aN (⟨qt _,by simp[wX],by simp⟩) ?_
        rintro m ⟨hm,hwx,hx⟩
        refine ah<|ay Z Z<|z7<|zb<|zm Z (fun cm=>?_) (fun cm=>?_)
        ·have hm1:m<f.blocks[k].insts.length:=by omega
         have hq1:=hb4 _ (qu hm1)
         have hl6:=hq1.lt
         have hs2:=Gg hm1
         refine ze<|zb<|zg<|ah<|za (q9 jz Z5 Z Z Z (qq (by omega)))<|ac Yd Z5 Z Z<|zy (cs:=[.int .i64 0,.int .i64 0,.raw (.slice none 0 0),.int .i64 0]) Y3 Z Z<|fun i11=>zt Z5 Z Z Z Z Z Z .head Z<|z7<|zb<|zb<|yq (γ:=Unit) [3,11,46,47,48,114,115,116] (fun u=>[(127,.bool (decide ((4000:Int)<(wV f.vars+vG (f.blocks.take k)+(f.blocks[k].name.size+10*(f.blocks[k].phis.length+f.blocks[k].insts.length))+wP f.blocks[k].phis+wX (f.blocks[k].insts.take m):Nat))||decide ((400:Int)<f.blocks[k].insts[m].args.length)))]) (fun u=>[(i11,.cells 69 (bz f.blocks[k].insts[m])),(i7,.cells 60 (bk f.blocks[k]))]) (fun u=>True) ?_ (fun _ _ h=>h) ?_
         ·refine bi<|aa Z<|za (yy Z Z)<|ai Z<|zk (s:=122) Z (fun c7=>?_) (fun c7=>?_)
          ·refine z6 Z Z c7<|z6 Z Z c7<|z6 Z Z c7<|z6 Z Z c7<|ap Z c7 Z<|z7 ?_
           exact ⟨(),vw,⟨jb (by simp_all<;>grind),trivial⟩,aN,trivial⟩
          ·refine z8 Z Z c7<|za (zc jp Z jm (by decide) Z Z)<|z8 Z Z c7<|za (zj (c:=.fro _ _) jw Z ⟨_,.head⟩ Z)<|z8 Z Z c7<|ae jd Z<|z8 Z Z c7<|za (yy Z Z)<|al Z c7 Z<|z7 ?_
           exact ⟨(),vw,⟨jb (by simp_all<;>grind),trivial⟩,aN,trivial⟩
         ·rintro _ _
          refine zr Z (fun cp=>?_) (fun cp=>?_)
          ·refine ah<|ad Z<|z7<|zf<|zh (x:=.bool _) Z ?_
           exact ⟨_,rfl,fun h=>(by cases h),fun hl=>absurd hl (fun hl=>by obtain ⟨_,_,_,_,h4⟩:=hl.2.2.2.2.1 _ (qu hk1);have h5:=h4 _ (qu hm1);have h9:=mI hl hk1;have hwb:wB f.blocks[k]=f.blocks[k].name.size+10*(f.blocks[k].phis.length+f.blocks[k].insts.length)+wP f.blocks[k].phis+wX f.blocks[k].insts:=rfl;have h10:=GD f.blocks[k].insts m;simp only[Bool.or_eq_true,wa] at cp;omega)⟩
          ·rcases Bool.or_eq_false_iff.1 cp with ⟨a1,a2⟩
           have a2:=of_decide_eq_false a2
           refine ze<|bi<|aa Z<|za (zc jp Z jm (by decide) Z Z)<|za (zj (c:=.fro _ _) jw Z ⟨_,.head⟩ Z)<|ae jd Z<|aC Z Z<|aw Z<|z7<|bi<|aC Z Z<|aa Z<|z7 ?_
           exact ⟨m+1,vv,⟨rfl,congrArg (AV.int .i64) (by rw[hs2];omega),trivial⟩,⟨_,(.drop (.refl _)),rfl⟩,⟨hm1,by omega,dP hm1 hx (by omega)⟩,by omega⟩
        ·obtain rfl:m=f.blocks[k].insts.length:=by omega
         rw[qv] at hwx hx
         rw[qv]
         refine zz<|ah<|aa Z<|za (yy Z Z)<|z7<|zm Z (fun cz=>?_) (fun cz=>?_)
         ·refine ah<|ad Z<|z7<|zf<|zh (x:=.bool _) Z ?_
          exact ⟨_,rfl,fun h=>(by cases h),fun hl=>absurd hl (fun hl=>by have h9:=mI hl hk1;have hwb:wB f.blocks[k]=f.blocks[k].name.size+10*(f.blocks[k].phis.length+f.blocks[k].insts.length)+wP f.blocks[k].phis+wX f.blocks[k].insts:=rfl;omega)⟩
         ·have hwb:wB f.blocks[k]=f.blocks[k].name.size+10*(f.blocks[k].phis.length+f.blocks[k].insts.length)+wP f.blocks[k].phis+wX f.blocks[k].insts:=rfl
          refine ze<|bi<|aC Z Z<|aa Z<|z7 ?_
          exact ⟨k+1,eE,⟨rfl,congrArg (AV.int .i64) (by rw[hs];omega),trivial⟩,⟨_,(.drop (.refl _)),rfl⟩,⟨hk1,by omega,by omega,dP hk1 hb ⟨hsb.1,hsb.2.1,hsb.2.2,hp,hx⟩⟩,by omega⟩
    ·obtain rfl:k=f.blocks.length:=by omega
     rw[qv] at hw2 hw3 hb
     refine zz<|ah<|ad Z<|z7<|zf<|zh (x:=.bool _) Z ?_
     exact ⟨_,rfl,fun _=>⟨hsz.1,hsz.2.1,hsz.2.2,hv,hb,fun hne=>hw2 (List.length_pos_iff.2 hne)⟩,fun _=>rfl⟩
theorem nC (f:ab) (hf:sj f) (hn:lO f) (hL:aj E):aZ prog E 27 [.agg (bQ f)] (.bool (decide (bA f))):=by
 refine zo func27 Z (by decide) Z<|ah<|yb (cs:=_) Z Z Z<|ad Z<|z7<|ah<|ac js jk Z Z<|zi (oR _ (by assumption) (by assumption) hL) Z<|ad Z<|z7<|zf<|zh (x:=.bool _) Z ?_
 rfl
noncomputable def v6 (f:ab):Bool:=@decide (iP f) (Classical.propDecidable _)
theorem gk (f:ab):v6 f=true↔iP f:=by unfold v6;exact @decide_eq_true_iff _ (Classical.propDecidable _)
theorem CL (f:ab) (hf:m1 f):aZ prog E 6 [.agg (bQ f)] (.bool (v6 f)):=
 (um f hf).mono fun x O' ⟨b,e,h⟩=>by
  rw[e]
  congr 1
  rw[qz,h,gk]
theorem j9 (f:ab) (hf:small f) (hL:aj E):aZ prog E 13 [.agg (bQ f)] (.bool (aT f)):=by
 have hs:=nC (E:=E) f hf.ok hf.names hL
 refine zo func13 Z (by decide) Z<|ah<|yb (cs:=_) Z Z Z<|ad Z<|z7<|ah<|ac js jk Z Z<|zi (hs) Z ?_
 by_cases g4:bA f
 ·refine ai Z<|z8 Z Z (w4 g4)<|ac js jk Z Z<|z8 Z Z (w4 g4)<|zi (qP f hf g4) Z<|za (DR Z (w4 g4) Z)<|ad Z<|z7<|zf<|zh (x:=.bool _) Z ?_
  exact jb (by unfold aT;rw[dS,w4 g4];rfl)
 ·refine ai Z<|z6 Z Z (w5 g4)<|z6 Z Z (w5 g4)<|za (Ds Z (w5 g4) Z)<|ad Z<|z7<|zf<|zh (x:=.bool _) Z ?_
  exact jb (by unfold aT;rw[dS,w5 g4];rfl)
theorem kV (f:ab) (hw:m1 f) (hL:aj E):aZ prog E 23 [.agg (bQ f)] (.bool (v6 f&&aT f)):=by
 refine zo func23 Z (by decide) Z<|ah<|yb (cs:=_) Z Z Z<|ad Z<|z7<|ah<|ac js jk Z Z<|zi (CL f hw) Z<|ai Z<|zk (s:=5) Z (fun g=>?_) (fun g=>?_)
 ·refine z8 Z Z g<|ac js jk Z Z<|z8 Z Z g<|zi (j9 f ((gk f).1 g).small hL) Z<|ap Z g Z<|ad Z<|z7<|zf<|zh (x:=.bool _) Z ?_
  exact jb (by rw[g];rfl)
 ·refine z6 Z Z g<|z6 Z Z g<|al Z g Z<|ad Z<|z7<|zf<|zh (x:=.bool _) Z ?_
  exact jb (by rw[g];rfl)
noncomputable def kE (f:ab):Bool:=v6 f&&aT f&&rt f
theorem GE {a b:Bool} (h:(a&&b)=true):a=true∧b=true:=by simpa using h
theorem uo {f:ab} (h:aT f=true):jC f=rt f:=
 Ef (gL h) fun b hb p hp c hc=>by
  have h1:=((kU h).2.2.2.2.2 b hb).1 p hp
  have h2:=List.all_eq_true.1 h1.2.2.2.2 c hc
  simpa [du] using h2
theorem ka (f:ab) (hw:m1 f) (hL:aj E):aZ prog E 14 [.agg (bQ f)] (.bool (kE f)):=by
 refine zo func14 Z (by decide) Z<|ah<|yb (cs:=_) Z Z Z<|ad Z<|z7<|ah<|ac js jk Z Z<|zi (kV f hw hL) Z<|ai Z<|zk (s:=5) Z (fun g=>?_) (fun g=>?_)
 ·refine z8 Z Z g<|ac js jk Z Z<|z8 Z Z g<|zi (pn f (gL (GE g).2) ((gk f).1 (GE g).1).small (kU (GE g).2)) Z<|ap Z g Z<|ad Z<|z7<|zf<|zh (x:=.bool _) Z ?_
  exact jb (by unfold kE;rw[g,uo (GE g).2];rfl)
 ·refine z6 Z Z g<|z6 Z Z g<|al Z g Z<|ad Z<|z7<|zf<|zh (x:=.bool _) Z ?_
  exact jb (by unfold kE;rw[g];rfl)
end
section
open Go.Proofs.Tryz
end
section
open Go.Proofs.Tryz
open Go.Proofs Go.Lib Go.Shelf Go.RowKit
variable {E:World}
set_option maxRecDepth 20000
theorem uq (xs:List Int) (v:Int) (hl:xs.length≤281474976710656):aZ prog E 90 [.fro 1 (xs.map b5),.int .i64 v] (.int .i64 (cY (fun x=>decide (v=x)) xs 0)):=by
 refine zo func90 Z (by decide) Z<|ah<|aw Z<|z7<|zb<|ah<|bC Z<|ae jd Z<|aa Z<|z7<|zg<|y7 (γ:=Nat) [0,1,7] (fun k=>[(8,.int .i64 k)]) (fun k=>[]) (fun k=>k≤xs.length∧(xs.take k).all (fun x=>!decide (v=x))) (fun k=>xs.length - k) 0 aW aN (⟨qt _,Z⟩) ?_
 rintro k ⟨hk,hall⟩
 refine ah<|ay Z Z<|z7<|zb<|zm Z (fun ck=>?_) (fun ck=>?_)
 ·have hk2:k<xs.length:=by simp at ck;omega
  refine ze<|zb<|zg<|ah<|aa Z<|aw Z<|z7<|ah<|aa Z<|bC Z<|aa Z<|za (cH k jd je Z Z Z (qq hk2))<|aE jj Z<|ax Z Z<|z7<|zr Z (fun cp=>?_) (fun cp=>?_)
  ·refine ah<|aa Z<|aw Z<|z7<|zf<|zh (x:=.int _ _) Z ?_
   rw[cA _ xs k hk hall,List.drop_eq_getElem_cons hk2,cY,if_pos (by simpa using cp)]
  ·refine ze<|bi<|aC Z Z<|aa Z<|z7 ?_
   exact ⟨k+1,hZ,aW,aN,⟨hk2,by rw[qr hk2,List.all_append,hall];simpa using cp⟩,by omega⟩
 ·have hkn:k=xs.length:=by simp at ck;omega
  refine zz<|ah<|aw Z<|z7<|zf<|zh (x:=.int _ _) Z ?_
  rw[cA _ xs k hk hall,hkn,List.drop_length,cY]
theorem pu (xs:List Int) (v:Int) (hl:xs.length≤281474976710656):aZ prog E 68 [.fro 1 (xs.map b5),.int .i64 v] (.bool (xs.contains v)):=by
 refine zo func68 Z (by decide) Z<|ah<|ad Z<|z7<|ah<|bC Z<|aa Z<|zi (uq xs v hl) Z<|za (ql Z Z)<|ad Z<|z7<|zf<|zh (x:=.bool _) Z ?_
 rw[fO];congr 1;rw[qz];simp
end
end Go.Proofs.YtjpnhkmfhlnpcaaGreatDoor
