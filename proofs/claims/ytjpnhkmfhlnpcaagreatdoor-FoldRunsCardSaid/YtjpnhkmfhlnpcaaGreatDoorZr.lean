/- What an operation that only gives comes to, over a heap told exactly. No conditions. -/
import Derived.Test.YtjpnhkmfhlnpcaaGreatDoorZl
import Derived.Test.YtjpnhkmfhlnpcaaGreatDoorZm
import Derived.Test.YtjpnhkmfhlnpcaaGreatDoorZq
import Derived.Test.YtjpnhkmfhlnpcaaGreatDoorZg
import Derived.Test.YtjpnhkmfhlnpcaaGreatDoorZd
import Derived.Test.YtjpnhkmfhlnpcaaGreatDoorZh
import Derived.Lib.LaidRTab
set_option linter.unusedVariables false
set_option linter.unusedSimpArgs false
set_option linter.unusedSectionVars false
namespace Go.Proofs.YtjpnhkmfhlnpcaaGreatDoor
section
open Go.Proofs.Tryz
open Go.Proofs Go.Lib Go.Shelf Go.RowKit
variable {E:World}
set_option maxRecDepth 20000
theorem Lw (a b c d e f g h:Int) (w:World):(Op.equalIn 10000 48 (.agg [.int .i64 a,.int .i64 b,.int .i64 c,.int .i64 d,.int .i64 e,.int .i64 f,.int .i64 g,.int .i64 h].toArray) (.agg [.int .i64 a,.int .i64 b,.int .i64 c,.int .i64 d,.int .i64 e,.int .i64 f,.int .i64 g,.int .i64 h].toArray)).run prog w=.ok true w:=by
 rw[Op.equalIn]
 simp only[Sem.run_bind,run_underlying Zj,Result.andThen_ok]
 simp only[Std.Legacy.Range.forIn_eq_forIn_range',Std.Legacy.Range.size,Nat.sub_zero,Nat.add_sub_cancel,Nat.div_one,List.range'_succ,List.range'_zero,List.forIn_cons,List.forIn_nil]
 simp[part,jj,je,run_equalIn_int,Yk]
theorem wo (s:GS) (hl:s.trace.length≤281474976710656):aZ prog E 17 [.agg (kj s),.agg (kj s)] (.bool true):=by
 have ha:=wn (E:=E) s s hl
 rw[show mK s s=true by unfold mK;simp] at ha
 refine zo func17 Z (by decide) Z<|ah<|yb (cs:=_) Z Z Z<|yb (cs:=_) Z Z Z<|ad Z<|z7<|ah<|ac isAgg50 Z7 Z Z<|ac isAgg50 Z7 Z Z<|zi (ha) Z<|ai Z<|z8 Z Z Z<|aq jy Z je Z Z<|z8 Z Z Z<|aE jj Z<|z8 Z Z Z<|aq jy Z je Z Z<|z8 Z Z Z<|aE jj Z<|z8 Z Z Z<|ax Z Z<|ap Z Z Z<|ai Z<|z8 Z Z (by simp)<|aq jy Z Zx Z Z<|z8 Z Z (by simp)<|ac isAgg48 Zx Z Z<|z8 Z Z (by simp)<|aq jy Z Zx Z Z<|z8 Z Z (by simp)<|ac isAgg48 Zx Z Z<|z8 Z Z (by simp)<|za (Gv.eqlP (xs:=[.int _ _,.int _ _,.int _ _,.int _ _,.int _ _,.int _ _,.int _ _,.int _ _]) (ys:=[.int _ _,.int _ _,.int _ _,.int _ _,.int _ _,.int _ _,.int _ _,.int _ _]) (by kernel_rfl) Z Z (fun w=>Lw _ _ _ _ _ _ _ _ w))<|za (DR Z (by simp) Z)<|ad Z<|z7<|zf<|zh (x:=.bool _) Z ?_
 rfl
structure wq (l:List Int) (f:ab) (i:vb) (n k:Nat) (s:GS):Prop where
 kn:k≤n
 run:s=df f k (dF f i)
 same:df (cF (aL l f)) k (dF f i)=df f k (dF f i)
 inv:bB f s
 st:s.st≤k
 ck:∀q,s.ck q≤k
section
variable {l:List Int} {f:ab} {i:vb} {n k:Nat} {s:GS}
theorem wq.step (h:wq l f i n k s) (hT:aT f=true) (hR:pd f) (hk:k<n) (he:s.ended=false) (hg:(blkG f s.blk).insts[s.pc]?=none→uH ((l[s.blk.toNat]?).getD 0) (blkG f s.blk).term s):wq l f i n (k+1) (cU f s):=by
 have hr:=h.run
 have h1:=EF (l:=l) hT h.same (by rw[←hr];exact he) (by rw[←hr];exact h.inv) (by rw[←hr];exact hg)
 rw[←hr] at h1
 refine ⟨hk,h1.2.symm,by rw[h1.1,h1.2],h.inv.step hR,?_,fun q=>Nat.le_trans (xN f s q) ?_⟩
 ·rw[xM];have:=h.st;omega
 ·have:=h.ck q;omega
theorem wq.out (h:wq l f i n k s) (he:k=n∨s.ended=true):s=df f n (dF f i)∧df (cF (aL l f)) n (dF f i)=df f n (dF f i):=by
 rcases he with rfl|he
 ·exact ⟨h.run,h.same⟩
 ·have hk:=h.kn
  rw[show n=k+(n - k) by omega,fB,fB,h.same,←h.run,mJ he,mJ he]
  exact ⟨rfl,rfl⟩
end
set_option maxHeartbeats 8000000 in
theorem sN (f:ab) (hw:m1 f) (h64:∀b∈f.blocks,∀x∈b.insts,cG x.num) (hL:aj E) (hlv:aZ prog E 5 [] (.bool true)) (i:vb) (hi64:Jf i) (hil:i.args.length≤9223372036854775807) (hil2:i.arrays.length≤9223372036854775807) (m:Int) (hm:0≤m∧m≤65535) (l:List Int) (hll:l.length≤9223372036854775807):aZ prog E 4 [.agg (bQ f),.agg (rQ i),.int .u16 m,.fro 1 (l.map b5)] (.bool true):=by
 refine zo func4 Z (by decide) Z<|ah<|yb (cs:=_) Z Z Z<|yb (cs:=_) Z Z Z<|ad Z<|z7<|zb<|ah<|zi (hlv) Z<|aD Z<|ai Z<|z8 Z Z Z<|ac js jk Z Z<|z8 Z Z Z<|zi (pD f hw hL) Z<|z8 Z Z Z<|aD Z<|al Z Z Z<|ai Z<|zk (s:=23) Z (fun c1=>?_) (fun c1=>?_)
 ·refine z6 Z Z c1<|z6 Z Z c1<|z6 Z Z c1<|ap Z c1 Z<|ai Z<|z6 Z Z Z<|z6 Z Z Z<|z6 Z Z Z<|z6 Z Z Z<|ap Z Z Z<|ai Z<|z6 Z Z Z<|z6 Z Z Z<|z6 Z Z Z<|z6 Z Z Z<|z6 Z Z Z<|z6 Z Z Z<|ap Z Z Z<|z7<|yt Z Z<|ah<|zi (hlv) Z<|ad Z<|z7<|zf<|zh (x:=.bool _) Z ?_
  rfl
 ·have hlj:gN f=true:=by cases h:gN f;rw[h] at c1;cases c1;rfl
  obtain ⟨hsm,ht,hJ⟩:=qQ hlj
  have hjs:=hlj
  unfold gN at hjs
  simp only[w6] at hjs
  have hfew:=hjs.1.1
  have hjt:(aT f&&cO f)=true:=by rw[ht,hjs.2];rfl
  have hlit:=(gk f).1 hfew
  have hS:=ej ht
  have hE:=dC ht
  refine z8 Z Z c1<|ac isAgg38 sizeOf38 Z Z<|z8 Z Z c1<|zi (sM i hil hil2) Z<|z8 Z Z c1<|aD Z<|al Z c1 Z<|ai Z<|zk (s:=28) Z (fun c2=>?_) (fun c2=>?_)
  ·refine z6 Z Z c2<|z6 Z Z c2<|z6 Z Z c2<|z6 Z Z c2<|ap Z c2 Z<|ai Z<|z6 Z Z Z<|z6 Z Z Z<|z6 Z Z Z<|z6 Z Z Z<|z6 Z Z Z<|z6 Z Z Z<|ap Z Z Z<|z7<|yt Z Z<|ah<|zi (hlv) Z<|ad Z<|z7<|zf<|zh (x:=.bool _) Z ?_
   rfl
  ·have hsi:gO i=true:=by cases h:gO i;rw[h] at c2;cases c2;rfl
   have hsi2:i.args.length≤20∧i.arrays.length≤40:=by unfold gO at hsi;simp only[w6,wa] at hsi;exact ⟨hsi.1,hsi.2.1⟩
   refine z8 Z Z c2<|ac js jk Z Z<|z8 Z Z c2<|ac isAgg38 sizeOf38 Z Z<|z8 Z Z c2<|zi (uM f i (gP hS) (by omega) (by omega)) Z<|z8 Z Z c2<|za (yn Z Z)<|al Z c2 Z<|ai Z<|zk (s:=34) Z (fun c3=>?_) (fun c3=>?_)
   ·refine z6 Z Z c3<|z6 Z Z c3<|z6 Z Z c3<|z6 Z Z c3<|z6 Z Z c3<|z6 Z Z c3<|ap Z c3 Z<|z7<|yt Z Z<|ah<|zi (hlv) Z<|ad Z<|z7<|zf<|zh (x:=.bool _) Z ?_
    rfl
   ·have hri:fH f i=0:=by simpa using c3
    refine z8 Z Z c3<|bC Z<|z8 Z Z c3<|ae jd Z<|z8 Z Z c3<|aq ji Z Z0 Z Z<|z8 Z Z c3<|aM Z6 Z<|z8 Z Z c3<|ae jl Z<|z8 Z Z c3<|za (yn Z Z)<|al Z c3 Z<|z7<|zr Z (fun c4=>?_) (fun c4=>?_)
    ·refine ah<|zi (hlv) Z<|ad Z<|z7<|zf<|zh (x:=.bool _) Z ?_
     rfl
    ·have hl:l.length=f.blocks.length:=by simp at c4;omega
     have hR:=lz hS h64
     have hpr:=j7 (l:=l) ht hJ
     obtain ⟨g,hg⟩:∃g,bh (aL l f)=g:=⟨_,rfl⟩
     obtain ⟨g1,hg1⟩:∃g1,cF (aL l f)=g1:=⟨_,rfl⟩
     have hTg0:=da (l:=l) ht
     have hW:=pj (l:=l) ht hJ
     have hT1:aT g1=true:=hg1▸m4 hTg0 hW
     have hJ1:ep g1:=hg1▸pi hTg0 hW
     have hgg1:bh g1=g:=by rw[←hg1,←hg];exact m5 hTg0 (pk ht hJ)
     have htg:aT g=true:=hg▸hpr.1
     have hS1:=ej hT1
     have hE1:=dC hT1
     have hSg:=ej htg
     have hlg:iP g:=hg▸uF hlit
     have hsg:=hlg.small
     have h641:∀b∈g1.blocks,∀x∈b.insts,cG x.num:=by
      rw[←hg1]
      intro b hb x hx
      obtain ⟨j,c,hc,rfl⟩:=vR hb
      have hc:(aL l f).blocks[j]?=some c:=hc
      have e:(aL l f).blocks[j]?=(f.blocks[j]?).map (eW l j):=fF j
      rw[e] at hc
      obtain ⟨d,hd,rfl⟩:=Option.map_eq_some_iff.1 hc
      exact h64 d (w0 hd) x hx
     have h64g:∀b∈g.blocks,∀x∈b.insts,cG x.num:=by
      rw[←hgg1]
      intro b hb x hx
      obtain ⟨j,hj,rfl⟩:=List.mem_map.1 hb
      have hjl:j<g1.blocks.length:=List.mem_range.1 (List.mem_filter.1 hj).1
      exact h641 _ (eO (f:=g1) (x:=(j:Int)) (by omega) (by omega)) x hx
     have hR1:=lz hS1 h641
     have hRg:=lz hSg h64g
     obtain ⟨hgi,hia⟩:=bB.beg hR (gP hS) (lA hS) hri hi64
     have hri1:fH g1 i=0:=by rw[←hg1];exact hri
     have hrig:fH g i=0:=by rw[←hg];exact hri
     obtain ⟨hg1i,_⟩:=bB.beg hR1 (gP hS1) (lA hS1) hri1 hi64
     obtain ⟨hggi,higg⟩:=bB.beg hRg (gP hSg) (lA hSg) hrig hi64
     have hv:=hsm.1
     have hls:=hgi.ls
     have hlr:=hgi.lr
     have hl2:=j9 (E:=E) g hsg hL
     rw[htg] at hl2
     have hwg:m1 g:=⟨by unfold wL;have:=hsg.1;omega,by unfold wL;have:=hsg.2.1;omega,by unfold wL;have:=hsg.2.2.1;omega,fun b hb=>by
      obtain ⟨_,q1,q2,q3,q4⟩:=hsg.2.2.2.2 b hb
      exact ⟨by unfold wL;omega,by unfold wL;omega,fun p hp=>⟨by unfold wL;have:=q3 p hp;omega,by unfold wL;have:=q3 p hp;omega⟩,fun x hx=>by unfold wL;have:=q4 x hx;omega⟩⟩
     have hfg:v6 g=true:=(gk g).2 hlg
     have hls1:=ka (E:=E) f hw hL
     have hls2:=ka (E:=E) g hwg hL
     have hpar:g.params=f.params:=by rw[←hg];rfl
     have hsin:kE f=true→kE g=true:=fun h=>by
      unfold kE at h ⊢
      simp only[w6] at h ⊢
      refine ⟨⟨hfg,htg⟩,(ru (dC htg)).2 ?_⟩
      rw[←hg]
      exact CX ht ((ru hE).1 h.2)
     obtain ⟨n,hn⟩:∃n:Nat,m.tmod 501=(n:Int):=⟨(m.tmod 501).toNat,by have:=Int.tmod_nonneg 501 hm.1;omega⟩
     have hn2:n≤500:=by have:=Int.tmod_lt_of_pos m (show (0:Int)<501 by decide);omega
     have hnw:IntKind.i64.wrap (m.tmod 501)=(n:Int):=by rw[hn];unfold IntKind.wrap;simp[IntKind.bits,IntKind.signed];omega
     have hfs:=CR (E:=E) f hsm hL hjt l hl
     rw[hg] at hfs
     refine ze<|ah<|ac js jk Z Z<|bC Z<|zi (hfs) Z<|za (J9 Z)<|za (Gv.extract (v:=.agg _) Z Z)<|za (DT Z Z)<|zy (cs:=[.raw (.slice none 0 0),.raw (.slice none 0 0),.raw (.slice none 0 0)]) Zq Z Z<|fun i9=>zt jk Z Z Z Z Z Z .head Z<|zx (yo (t:=9) Z .head)<|aw Z<|z7<|zb<|zb<|yq (γ:=Bool) [2,3,4,5,9] (fun u=>[(73,.bool u)]) (fun u=>[]) (fun u=>u=false) ?_ (fun _ _ h=>h) ?_
     ·refine bi<|aa Z<|za (yn Z Z)<|ai Z<|z8 Z Z Z<|ac js jk Z Z<|z8 Z Z Z<|zi (hl2) Z<|z8 Z Z Z<|aD Z<|al Z Z Z<|ai Z<|z8 Z Z Z<|aq ji Z jm Z Z<|z8 Z Z Z<|aM jw Z<|z8 Z Z Z<|ae jd Z<|z8 Z Z Z<|aq ji Z jm Z Z<|z8 Z Z Z<|aM jw Z<|z8 Z Z Z<|ae jd Z<|z8 Z Z Z<|za (yn Z Z)<|al Z Z Z<|ai Z<|z8 Z Z (by rw[hpar];simp)<|ac js jk Z Z<|z8 Z Z (by rw[hpar];simp)<|zi (hls1) Z<|z8 Z Z (by rw[hpar];simp)<|ai Z<|zk (s:=68) Z (fun c5=>?_) (fun c5=>?_)
      ·have h5:=hsin c5
       refine z8 Z Z c5<|ac js jk Z Z<|z8 Z Z c5<|zi (hls2) Z<|z8 Z Z c5<|aD Z<|z8 Z Z (by rw[hpar];simp)<|ap Z c5 Z<|za (Ds Z (by rw[hpar];simp) Z)<|z7 ?_
       exact ⟨_,(by repeat (first|with_reducible exact qf _ _|refine cK.up rfl ?_|exact vv)),aW,aN,by rw[h5];rfl⟩
      ·refine z6 Z Z c5<|z6 Z Z c5<|z6 Z Z c5<|z8 Z Z (by rw[hpar];simp)<|al Z c5 Z<|za (Ds Z (by rw[hpar];simp) Z)<|z7 ?_
       exact ⟨_,(by repeat (first|with_reducible exact qf _ _|refine cK.up rfl ?_|exact vv)),aW,aN,by rfl⟩
     ·rintro u hu
      subst hu
      refine yp Z Z<|ze<|ah<|aa Z<|za (Gv.rem Z Z (by decide))<|za (Gv.conv underlying39 Yk Z)<|aw Z<|z7<|ah<|ac js jk Z Z<|ac isAgg38 sizeOf38 Z Z<|yu Z (zu (.rest _)) (m8 f i hv hia hls hlr) ?_
      rintro r79 O79 ⟨iw,ja,jb,jc,jo,jt,ids,hids,rfl,rfl⟩
      refine za (DS Z)<|z7<|zb<|ah<|aw Z<|z7<|yq (γ:=Nat × GS × Nat × Nat × List Nat) [5,9,11,12] (fun g=>[]) (fun g=>wO f iw ja jb jc g.2.2.1 g.2.2.2.1 g.2.2.2.2 g.2.1) (fun g=>(wq l f i n g.1 g.2.1∧g.2.2.2.2.length=g.2.1.arrays.length)∧(g.1=n∨g.2.1.ended=true)) ?_ (fun _ _ h=>h) ?_
      ·refine zg<|y7 (γ:=Nat × GS × Nat × Nat × List Nat) [3,4,5,9,11,12] (fun g=>[(13,.int .i64 g.1)]) (fun g=>wO f iw ja jb jc g.2.2.1 g.2.2.2.1 g.2.2.2.2 g.2.1) (fun g=>wq l f i n g.1 g.2.1∧g.2.2.2.2.length=g.2.1.arrays.length) (fun g=>n - g.1) (0,dF f i,jo,jt,ids) aW aN (⟨⟨qt _,Z,Z,hgi,qt _,fun _=>qt _⟩,hids⟩) ?_
       rintro ⟨k,s,jo,jt,ids⟩ ⟨hD,hids⟩
       try dsimp only at *
       have hg:=hD.inv
       have hst:=hD.st
       have hck:=hD.ck
       refine zb<|ah<|aa Z<|aa Z<|ay Z Z<|ai Z<|zk (s:=83) Z (fun ck=>?_) (fun ck=>?_)
       ·have hk2:k<n:=by rw[hnw] at ck;simp at ck;omega
        refine z8 Z Z ck<|bn Z<|z8 Z Z ck<|az Z<|z8 Z Z ck<|za (zc jf Z Z3 (by decide) Z Z)<|z8 Z Z ck<|za (zj (c:=.bool _) Yc Z ⟨_,.head⟩ Z)<|z8 Z Z ck<|aD Z<|ap Z ck Z<|z7<|zr Z (fun ce=>?_) (fun ce=>?_)
        ·have he:s.ended=false:=by simpa using ce
         obtain ⟨b,hb⟩:∃b:Nat,s.blk=(b:Int):=⟨s.blk.toNat,by have:=hg.b0;omega⟩
         have hbl:b<f.blocks.length:=by have:=hg.b1;omega
         obtain ⟨B,hB⟩:∃B,f.blocks[b]?=some B:=⟨_,qq hbl⟩
         have hBm:=w0 hB
         have hbg:blkG f s.blk=B:=by rw[hb];unfold blkG;rw[Int.toNat_natCast,hB];rfl
         obtain ⟨w,hw2⟩:∃w,(l[b]?).getD 0=w:=⟨_,rfl⟩
         have hlw:l[b]?=some w:=by rw[←hw2,qq (by omega)];rfl
         refine ze<|zb<|zg<|zb<|zq (fun j=>Nat.beq j 9) (by kernel_rfl) Z (zu (.r (.rest _)))<|ak 0 Z (eK ji Z Z0 Z Z)<|ak 1 Z (lL Z6 Z)<|ak 2 Z (eU Z)<|ak 3 Z (zw Z)<|ak 4 Z (zc jf Z je (by decide) Z Z)<|ak 5 Z (zj (c:=.int _ _) jj Z ⟨_,.head⟩ Z)<|ak 6 Z (cH b jl jv Z Z hb hB)<|ak 7 Z (yv Zu jv Z Z)<|bO 8 Z<|zy (cs:=[.str ⟨#[]⟩,.raw (.slice none 0 0),.raw (.slice none 0 0),.int .i64 0,.int .i64 0,.int .i64 0,.int .i64 0]) Zc Z Z<|fun i14=>z7<|yi<|yk (i:=9) Z (by kernel_rfl) (by kernel_rfl)<|zt jv Z Z Z Z Z Z .t1 Z<|z7<|yl (by kernel_rfl)<|yc (yo (t:=14) Z .t1)<|zb<|zb<|yq (γ:=Bool) [3,4,5,9,11,12,13,14] (fun u=>[(113,.bool u)]) (fun u=>wO f iw ja jb jc jo jt ids s) (fun u=>u=decide (s.pc=B.insts.length∧B.term.kind=1)) ?_ (fun _ _ h=>h) ?_
         ·refine zq (fun j=>false) (by kernel_rfl) Z (zu (.r (.rest _)))<|ak 0 Z (eU Z)<|ak 1 Z (zw Z)<|ak 2 Z (zc jf Z je (by decide) Z Z)<|ak 3 Z (zj (c:=.int _ _) jj Z ⟨_,.head⟩ Z)<|ak 4 Z (eK jh Z Zi Z Z)<|ak 5 Z (lL Zy Z)<|ak 6 Z (Gv.lenM jz Z)<|ak 7 Z (Gv.eqlI Z Z)<|ak 8 Z (DQ Z)<|bJ.case (s:=108) Z (fun c1=>?_) (fun c1=>?_)
          ·refine fJ 9 Z Z Z c1 (eK jh Z Z4 Z Z)<|fJ 10 Z Z Z c1 (eK jg Z Zn Z Z)<|fJ 11 Z Z Z c1 (gH Zs Z)<|fJ 12 Z Z Z c1 (Gv.eqlI Z Z)<|ak 13 Z (DR Z c1 Z)<|eG ?_
           exact ⟨_,(by repeat (first|with_reducible exact qf _ _|refine cK.up rfl ?_|exact vw)),aW,aN,by clear hg;simp_all<;>omega⟩
          ·refine d5 9 Z Z Z c1<|d5 10 Z Z Z c1<|d5 11 Z Z Z c1<|d5 12 Z Z Z c1<|ak 13 Z (Ds Z c1 Z)<|eG ?_
           exact ⟨_,(by repeat (first|with_reducible exact qf _ _|refine cK.up rfl ?_|exact vw)),aW,aN,by clear hg;simp_all<;>omega⟩
         ·rintro u hu
          refine yq (γ:=Unit) [3,4,5,9,11,12,13] (fun z=>[]) (fun z=>wO f iw ja jb jc jo jt ids s) (fun z=>(blkG f s.blk).insts[s.pc]?=none→uH ((l[s.blk.toNat]?).getD 0) (blkG f s.blk).term s) ?_ (fun _ _ h=>h) ?_
          ·refine zr Z (fun cu=>?_) (fun cu=>?_)
           ·have hc:s.pc=B.insts.length∧B.term.kind=1:=w9 (hu▸cu)
            have hvk:bl f B.term.var=true:=by
             have h1:=(hR.term _ hBm)
             unfold bj at h1
             rw[if_neg (by omega),if_pos hc.2] at h1
             simp only[w6] at h1
             exact h1.1.1
            have hvr:=dU hvk
            have hbl2:=hg.lb
            refine zb<|zq (fun j=>false) (by kernel_rfl) Z (zu (.r (.l (.r (.rest _)))))<|ak 0 Z (eU Z)<|ak 1 Z (zw Z)<|ak 2 Z (zc jf Z Ya (by decide) Z Z)<|ak 3 Z (zj (c:=.own _ _) Yi Z ⟨_,.head⟩ Z)<|ak 4 Z (eK jh Z Z4 Z Z)<|ak 5 Z (eK jg Z je Z Z)<|ak 6 Z (gH jj Z)<|ak 7 Z (yj (j:=B.term.var.toNat) jn Z3 Z Z (by omega) ⟨_,.t1⟩ ((bt _).trans hg.lb) (by omega))<|ak 8 Z (Gv.loadB (j:=B.term.var.toNat) Yc Z ⟨_,.t1⟩ (pF (by omega) hvr.2))<|ak 9 Z (xg Z)<|eG<|yc (zn (zp .t6))<|yc (zn (zp .t6))<|yc (zn (zp .t6))<|yc (zn (zp .t6))<|yc (zn (zp .t5))<|yc (zn (zp .t6))<|yc (zn (zp .t6))<|zb<|yq (γ:=Bool) [3,4,5,9,11,12,13] (fun x=>[(147,.bool x)]) (fun x=>wO f iw ja jb jc jo jt ids s) (fun x=>x=((decide (w=1)&&!gb s.bools B.term.var)||(decide (w=2)&&gb s.bools B.term.var))) ?_ (fun _ _ h=>h) ?_
            ·refine bi<|bC Z<|bn Z<|az Z<|za (zc jf Z je (by decide) Z Z)<|za (zj (c:=.int _ _) jj Z ⟨_,.head⟩ Z)<|za (cH b jd je Z Z hb hlw)<|aE jj Z<|ax Z Z<|ai Z<|zk (s:=131) Z (fun c2=>?_) (fun c2=>?_)
             ·refine z8 Z Z c2<|ai Z<|z8 Z Z c2<|aD Z<|ap Z c2 Z<|ai Z<|zk (s:=135) Z (fun c3=>?_) (fun c3=>?_)
              ·refine z6 Z Z c3<|z6 Z Z c3<|z6 Z Z c3<|z6 Z Z c3<|z6 Z Z c3<|z6 Z Z c3<|z6 Z Z c3<|z6 Z Z c3<|z6 Z Z c3<|zd Z Z<|z6 Z Z c3<|ap Z c3 Z<|z7 ?_
               exact ⟨_,(by repeat (first|with_reducible exact qf _ _|refine cK.up rfl ?_|exact iM)),aW,aN,by clear hg;cases hgb:gb s.bools B.term.var<;>simp_all⟩
              ·refine z8 Z Z c3<|bC Z<|z8 Z Z c3<|bn Z<|z8 Z Z c3<|az Z<|z8 Z Z c3<|za (zc jf Z je (by decide) Z Z)<|z8 Z Z c3<|za (zj (c:=.int _ _) jj Z ⟨_,.head⟩ Z)<|z8 Z Z c3<|za (cH b jd je Z Z hb hlw)<|z8 Z Z c3<|aE jj Z<|z8 Z Z c3<|ax Z Z<|z8 Z Z c3<|ai Z<|zk (s:=144) Z (fun c4=>?_) (fun c4=>?_)
               ·refine z8 Z Z c4<|ai Z<|z8 Z Z c3<|ap Z c4 Z<|al Z c3 Z<|z7 ?_
                exact ⟨_,(by repeat (first|with_reducible exact qf _ _|refine cK.up rfl ?_|exact iM)),aW,aN,by clear hg;cases hgb:gb s.bools B.term.var<;>simp_all⟩
               ·refine z6 Z Z c4<|z8 Z Z c3<|al Z c4 Z<|al Z c3 Z<|z7 ?_
                exact ⟨_,(by repeat (first|with_reducible exact qf _ _|refine cK.up rfl ?_|exact iM)),aW,aN,by clear hg;cases hgb:gb s.bools B.term.var<;>simp_all⟩
             ·refine z6 Z Z c2<|z6 Z Z c2<|al Z c2 Z<|ai Z<|z8 Z Z Z<|bC Z<|z8 Z Z Z<|bn Z<|z8 Z Z Z<|az Z<|z8 Z Z Z<|za (zc jf Z je (by decide) Z Z)<|z8 Z Z Z<|za (zj (c:=.int _ _) jj Z ⟨_,.head⟩ Z)<|z8 Z Z Z<|za (cH b jd je Z Z hb hlw)<|z8 Z Z Z<|aE jj Z<|z8 Z Z Z<|ax Z Z<|z8 Z Z Z<|ai Z<|zk (s:=144) Z (fun c5=>?_) (fun c5=>?_)
              ·refine z8 Z Z c5<|ai Z<|z8 Z Z Z<|ap Z c5 Z<|al Z Z Z<|z7 ?_
               exact ⟨_,(by repeat (first|with_reducible exact qf _ _|refine cK.up rfl ?_|exact iM)),aW,aN,by clear hg;cases hgb:gb s.bools B.term.var<;>simp_all⟩
              ·refine z6 Z Z c5<|z8 Z Z Z<|al Z c5 Z<|al Z Z Z<|z7 ?_
               exact ⟨_,(by repeat (first|with_reducible exact qf _ _|refine cK.up rfl ?_|exact iM)),aW,aN,by clear hg;cases hgb:gb s.bools B.term.var<;>simp_all⟩
            ·rintro x hx
             refine zr Z (fun cx=>?_) (fun cx=>?_)
             ·refine ah<|ad Z<|z7<|zf<|zh (x:=.bool _) Z ?_
              rfl
             ·have hx2:((decide (w=1)&&!gb s.bools B.term.var)||(decide (w=2)&&gb s.bools B.term.var))=false:=by rw[←hx];exact cx
              refine ze ?_
              exact ⟨(),(by repeat (first|with_reducible exact qf _ _|refine cK.up rfl ?_|exact iM)),trivial,aN,fun _ _=>by rw[hbg,hb,Int.toNat_natCast,hw2];cases hgb:gb s.bools B.term.var<;>rw[hgb] at hx2<;>simp_all⟩
           ·refine ze ?_
            exact ⟨(),(by repeat (first|with_reducible exact qf _ _|refine cK.up rfl ?_|exact iM)),trivial,aN,fun hn0 hk1=>by exfalso;rw[hbg] at hn0 hk1;have h1:=List.getElem?_eq_none_iff.1 hn0;have h2:=hg.pc;rw[hbg] at h2;have h3:¬(s.pc=B.insts.length∧B.term.kind=1):=of_decide_eq_false (hu▸cu);exact h3 ⟨by omega,hk1⟩⟩
          ·rintro z hgo
           refine bi<|bn Z<|yu Z (zu (.l (.l (.l (.l (.l (.l (.l (.rest _))))))))) (pH f iw ja jb jc jo jt ids s hids hg hR hv hsm (by omega) (fun q=>by have:=hck q;omega)) ?_
           rintro r149 O149 ⟨jo',jt',ids',hl',rfl,rfl⟩
           refine z7<|bi<|aa Z<|aC Z Z<|aw Z<|z7 ?_
           exact ⟨(k+1,cU f s,jo',jt',ids'),FX,aW,aN,⟨hD.step ht hR hk2 he hgo,hl'⟩,by dsimp only;omega⟩
        ·refine zz ?_
         exact ⟨(k,s,jo,jt,ids),(by repeat (first|with_reducible exact qf _ _|refine cK.up rfl ?_|exact gY)),trivial,aN,⟨⟨hD,hids⟩,.inr (by simpa using ce)⟩⟩
       ·refine z6 Z Z ck<|z6 Z Z ck<|z6 Z Z ck<|z6 Z Z ck<|z6 Z Z ck<|al Z ck Z<|z7<|yp Z Z<|zz ?_
        exact ⟨(k,s,jo,jt,ids),(by repeat (first|with_reducible exact qf _ _|refine cK.up rfl ?_|exact gY)),trivial,aN,⟨⟨hD,hids⟩,.inl (by rw[hnw] at ck;simp at ck;have:=hD.kn;omega)⟩⟩
      ·rintro ⟨k,s,jo,jt,ids⟩ ⟨⟨hD,hids⟩,hend⟩
       dsimp only at hD hids hend ⊢
       have hout:=hD.out hend
       have hal1:i.args.length=g1.params.length:=Classical.byContradiction fun h=>by unfold fH at hri1;rw[if_pos h] at hri1;cases hri1
       have hlk:=o4 hE1 hS1 hJ1
       rw[hgg1] at hlk
       have hgv:g.vars=g1.vars:=by rw[←hgg1];rfl
       have hWv:∀v,bl g1 v=true→bl g1 v=true∧bl g (_root_.id v)=true:=fun v hv=>⟨hv,by unfold bl at hv ⊢;rw[hgv];exact hv⟩
       have hDv:∀x,x∈ord g1→∀p∈(bb g1 x).phis,kT p:=fun x hx p hp=>ua hS1 hJ1 (bm hE1.grph.toEOk hx).1 (bm hE1.grph.toEOk hx).2 hp
       have hsim:=hlk.beg hS1 hWv hal1
       have hrS:=ir.run hlk hR1 hRg hWv hDv n hsim hg1i hggi
       have hbe:dF g1 i=dF f i:=by rw[←hg1];rfl
       have hs1:df g1 n (dF g1 i)=s:=by rw[hbe,←hg1,hout.2,←hout.1]
       rw[hs1] at hrS
       have hrun:=C5 (E:=E) g i n hRg hsg.1 hsg hggi higg (by omega)
       have heq:kj (df g n (dF g i))=kj s:=by
        unfold kj
        rw[hrS.en,hrS.val,hrS.tr,hrS.trace,hrS.st,hrS.ck]
       rw[heq,←hnw] at hrun
       have htl:s.trace.length≤281474976710656:=by have:=hD.inv.lt;omega
       have hsam:=wo (E:=E) s htl
       refine yc (aX.knowIC (off:=12) .t5 .head Z Z)<|zb<|zq (fun j=>false) (by kernel_rfl) Z (zu (.r (.rest _)))<|ak 0 Z (eU Z)<|ak 1 Z (zw Z)<|ak 2 Z (zc jf Z Z7 (by decide) Z Z)<|ak 3 Z (Gv.loadAC (l:=[_,_,_,_,_,_,_,_,_,_,_,_,_]) isAgg50 Z7 Z ⟨_,.head⟩ Z Z)<|ak 4 Z (yv js jk Z Z)<|ak 5 Z (yv isAgg38 sizeOf38 Z Z)<|ak 6 Z (d9 Z)<|bO 7 Z<|zi (hrun) Z<|z7<|bO 8 Z<|zi (hsam) Z<|z7<|ak 9 Z (xg Z)<|eG<|zf<|zh (x:=.bool _) Z ?_
       rfl
end
section
open Go.Proofs.Tryz
open Go.Proofs Go.Lib Go.Shelf Go.RowKit Go.WideShapes
set_option maxRecDepth 20000
variable {W:World}
theorem C6:fQ prog W 3 b5 (fun x=>(Lit.int .i64 x).wf=true):=fQ.int Yk
theorem uN:fQ prog W 23 (fun l:List Int=>[.fro 1 (l.map b5)]) wL:=fun en held fuel cs x h=>by
 obtain ⟨l,hl,r⟩:=fQ.slice (k:=1) jd C6 (by kernel_rfl) (by decide) en held fuel cs x h
 exact ⟨l,hl.2,r⟩
theorem Jk:fQ prog W 66 b7 (fun _=>True):=fun en held fuel cs x h=>by
 obtain ⟨xs,n,_,_,hl,hxl,hf⟩:=DataW.trod_struct Zm h
 have hl:cs.length=2:=hl.trans (by kernel_rfl)
 have hxl:xs.length=2:=hxl
 obtain ⟨a,_,ra⟩:=qh (o:=0) (k:=1) (hf 0 _ rfl) (fQ.str Zg) (by omega) rfl (by kernel_rfl)
 obtain ⟨b,_,rb⟩:=qh (o:=1) (k:=1) (hf 1 _ rfl) (fQ.int underlying64) (by omega) rfl (by kernel_rfl)
 exact ⟨⟨a,b⟩,trivial,qa (o:=0) ra (qa rb (RepL.fin hl))⟩
theorem Jl:fQ prog W 73 bd Kc:=fun en held fuel cs x h=>by
 obtain ⟨xs,n,_,_,hl,hxl,hf⟩:=DataW.trod_struct jq h
 have hl:cs.length=3:=hl.trans (by kernel_rfl)
 have hxl:xs.length=3:=hxl
 obtain ⟨a,_,ra⟩:=qh (o:=0) (k:=1) (hf 0 _ rfl) C6 (by omega) rfl (by kernel_rfl)
 obtain ⟨b,hb,rb⟩:=qh (o:=1) (k:=1) (hf 1 _ rfl) uN (by omega) rfl (by kernel_rfl)
 obtain ⟨c,hc,rc⟩:=qh (o:=2) (k:=1) (hf 2 _ rfl) uN (by omega) rfl (by kernel_rfl)
 exact ⟨⟨a,b,c⟩,⟨hb,hc⟩,qa (o:=0) ra (qa rb (qa rc (RepL.fin hl)))⟩
def Ks (x:bc):Prop:=wL x.args∧(Lit.int .i64 x.num).wf=true
theorem GZ:fQ prog W 69 bz Ks:=fun en held fuel cs x h=>by
 obtain ⟨xs,n,_,_,hl,hxl,hf⟩:=DataW.trod_struct jp h
 have hl:cs.length=4:=hl.trans (by kernel_rfl)
 have hxl:xs.length=4:=hxl
 obtain ⟨a,_,ra⟩:=qh (o:=0) (k:=1) (hf 0 _ rfl) (fQ.int underlying67) (by omega) rfl (by kernel_rfl)
 obtain ⟨b,_,rb⟩:=qh (o:=1) (k:=1) (hf 1 _ rfl) C6 (by omega) rfl (by kernel_rfl)
 obtain ⟨c,hc,rc⟩:=qh (o:=2) (k:=1) (hf 2 _ rfl) uN (by omega) rfl (by kernel_rfl)
 obtain ⟨d,hd,rd⟩:=qh (o:=3) (k:=1) (hf 3 _ rfl) (fQ.int Zl) (by omega) rfl (by kernel_rfl)
 exact ⟨⟨a,b,c,d⟩,⟨hc,hd⟩,qa (o:=0) ra (qa rb (qa rc (qa rd (RepL.fin hl))))⟩
theorem G2:fQ prog W 58 nO (fun _=>True):=fun en held fuel cs x h=>by
 obtain ⟨xs,n,_,_,hl,hxl,hf⟩:=DataW.trod_struct jg h
 have hl:cs.length=4:=hl.trans (by kernel_rfl)
 have hxl:xs.length=3:=hxl
 obtain ⟨a,_,ra⟩:=qh (o:=0) (k:=1) (hf 0 _ rfl) (fQ.int underlying55) (by omega) rfl (by kernel_rfl)
 obtain ⟨b,_,rb⟩:=qh (o:=1) (k:=1) (hf 1 _ rfl) C6 (by omega) rfl (by kernel_rfl)
 obtain ⟨c,_,rc⟩:=qh (o:=2) (k:=2) (hf 2 _ rfl) (fQ.pair (k:=1) ju C6 (by kernel_rfl) (by kernel_rfl)) (by omega) rfl (by kernel_rfl)
 exact ⟨⟨a,b,c.1,c.2⟩,trivial,qa (o:=0) ra (qa rb (qa rc (RepL.fin hl)))⟩
def Kt (f:ab):Prop:=∀b∈f.blocks,∀x∈b.insts,cG x.num
def Ku (b:aB):Prop:=Kd b∧∀x∈b.insts,-9223372036854775808≤x.num∧x.num≤9223372036854775807
theorem G3:fQ prog W 60 bk Ku:=fun en held fuel cs x h=>by
 obtain ⟨xs,n,_,_,hl,hxl,hf⟩:=DataW.trod_struct jh h
 have hl:cs.length=7:=hl.trans (by kernel_rfl)
 have hxl:xs.length=4:=hxl
 obtain ⟨a,_,ra⟩:=qh (o:=0) (k:=1) (hf 0 _ rfl) (fQ.str Zg) (by omega) rfl (by kernel_rfl)
 obtain ⟨b,hb,rb⟩:=qh (o:=1) (k:=1) (hf 1 _ rfl) (fQ.slice (k:=3) jx Jl (by kernel_rfl) (by decide)) (by omega) rfl (by kernel_rfl)
 obtain ⟨c,hc,rc⟩:=qh (o:=2) (k:=1) (hf 2 _ rfl) (fQ.slice (k:=4) jz GZ (by kernel_rfl) (by decide)) (by omega) rfl (by kernel_rfl)
 obtain ⟨d,_,rd⟩:=qh (o:=3) (k:=4) (hf 3 _ rfl) G2 (by omega) rfl (by kernel_rfl)
 exact ⟨⟨a,b,c,d⟩,⟨⟨hb.2,hc.2,hb.1,fun x hx=>(hc.1 x hx).1⟩,fun x hx=>by simpa [Lit.wf,IntKind.min,IntKind.max,IntKind.signed,IntKind.bits] using (hc.1 x hx).2⟩,qa (o:=0) ra (qa rb (qa rc (qa rd (RepL.fin hl))))⟩
theorem Kv:fQ prog W 26 bQ (fun f=>m1 f∧Kt f):=fun en held fuel cs x h=>by
 obtain ⟨xs,n,_,_,hl,hxl,hf⟩:=DataW.trod_struct ji h
 have hl:cs.length=3:=hl.trans (by kernel_rfl)
 have hxl:xs.length=3:=hxl
 obtain ⟨a,ha,ra⟩:=qh (o:=0) (k:=1) (hf 0 _ rfl) (fQ.slice (k:=2) Zb Jk (by kernel_rfl) (by decide)) (by omega) rfl (by kernel_rfl)
 obtain ⟨b,hb,rb⟩:=qh (o:=1) (k:=1) (hf 1 _ rfl) uN (by omega) rfl (by kernel_rfl)
 obtain ⟨c,hc,rc⟩:=qh (o:=2) (k:=1) (hf 2 _ rfl) (fQ.slice (k:=7) jl G3 (by kernel_rfl) (by decide)) (by omega) rfl (by kernel_rfl)
 exact ⟨⟨a,b,c⟩,⟨⟨ha.2,hb,hc.2,fun x hx=>(hc.1 x hx).1⟩,fun x hx=>(hc.1 x hx).2⟩,qa (o:=0) ra (qa rb (qa rc (RepL.fin hl)))⟩
theorem EQ {H:Type} {enc:TypeId × Value→H} {held:Bool} {α:Type} {T e:TypeId} {k:Nat} {g:α→List (List AV)} {ok:α→Prop} {base:Nat} {v:Value} {d:DataW H} {p:List MemPlace} (hd:fQ prog W T (fun a=>[.fro k (g a)]) ok) (ht:prog.underlying T=some (.slice e))
  (hv:Value.okWide prog W .any base T v) (h:DataW.Trod enc prog W 0 (fun _=>true) held T v d p):∃a,ok a∧cf (I0 W) (.fro k (g a)) v:=by
 obtain ⟨a,len,cap,rfl⟩:=okWide_slice ht hv
 obtain ⟨fuel,h⟩:=h
 obtain ⟨a,h1,v,_,e,h2,h3⟩:=hd enc held fuel _ _ h
 cases e
 exact ⟨a,h1,h2⟩
theorem rS {H:Type} {enc:TypeId × Value→H} {held:Bool} {α:Type} {T:TypeId} {e:α→List AV} {ok:α→Prop} {fs:Array Field} {base:Nat} {v:Value} {d:DataW H} {p:List MemPlace} (hd:fQ prog W T e ok) (ht:prog.underlying T=some (.struct fs))
  (hv:Value.okWide prog W .any base T v) (h:DataW.Trod enc prog W 0 (fun _=>true) held T v d p):∃a,ok a∧cf (I0 W) (.agg (e a)) v:=by
 obtain ⟨cs,rfl,_⟩:=okWide_struct ht hv
 obtain ⟨fuel,h⟩:=h
 obtain ⟨a,h1,h2⟩:=hd enc held fuel _ _ h
 exact ⟨a,h1,cs.toList,by simp,h2⟩
theorem Ly:RExtra prog Tryz.lays200_ren:=⟨by kernel_rfl,by kernel_rfl,by kernel_rfl,by kernel_rfl,by kernel_rfl,by kernel_rfl,by kernel_rfl,by kernel_rfl⟩
theorem wt (h:Lib.VarReads prog W "unicode.properties" (Lib.tabData .u8 Lib.propertiesTab)) (h2:Lib.VarReads prog W "unicode.Letter" (Lib.rtabData letterT)):aj W:=
 ⟨oL (g:=0) (by kernel_rfl) (by kernel_rfl) underlying197 underlying5 (by kernel_rfl) (by kernel_rfl) h,
  rvar_of_reads { Tryz.lays200 with } Ly (name:="unicode.Letter") (g:=1) (by kernel_rfl) (by kernel_rfl) h2⟩
end
section
open Go.Proofs.Tryz
inductive Tr (α:Type) where
 |lf
 |nd (v:Option α) (l r:Tr α)
 deriving Inhabited
section
variable {α:Type}
inductive Pa where
 |e
 |l (p:Pa)
 |r (p:Pa)
 deriving DecidableEq
noncomputable def l9 (n:Nat):Nat→Pa:=Nat.rec (motive:=fun _=>Nat→Pa) (fun _=>.e) (fun _ ih k=>Bool.rec (Bool.rec (.r (ih (Nat.sub (Nat.div k 2) 1))) (.l (ih (Nat.div k 2))) (Nat.beq (Nat.mod k 2) 1)) .e (Nat.beq k 0)) n
noncomputable def wu (k:Nat):Pa:=l9 (Nat.succ k) k
noncomputable def Tr.getP (p:Pa):Tr α→Option α:=Pa.rec (motive:=fun _=>Tr α→Option α) (fun t=>Tr.rec none (fun v _ _ _ _=>v) t) (fun _ ih t=>Tr.rec none (fun _ l _ _ _=>ih l) t) (fun _ ih t=>Tr.rec none (fun _ _ r _ _=>ih r) t) p
noncomputable def Tr.setP (p:Pa):Tr α→Option α→Tr α:=Pa.rec (motive:=fun _=>Tr α→Option α→Tr α) (fun t v=>Tr.rec (.nd v .lf .lf) (fun _ l r _ _=>.nd v l r) t) (fun _ ih t v=>Tr.rec (.nd none (ih .lf v) .lf) (fun u l r _ _=>.nd u (ih l v) r) t) (fun _ ih t v=>Tr.rec (.nd none .lf (ih .lf v)) (fun u l r _ _=>.nd u l (ih r v)) t) p
noncomputable def Tr.get (t:Tr α) (k:Nat):Option α:=Tr.getP (wu k) t
noncomputable def Tr.set (t:Tr α) (k:Nat) (v:Option α):Tr α:=Tr.setP (wu k) t v
theorem xT {β:Type} (a b:Nat) (x y:β):(bif Nat.beq a b then x else y)=if a=b then x else y:=by
 by_cases h:a=b
 ·rw[if_pos h,h,show Nat.beq b b=true from Nat.beq_refl b];rfl
 ·rw[if_neg h,show Nat.beq a b=false from by cases e:Nat.beq a b<;>simp_all];rfl
def Pa.val:Pa→Nat
 |.e=>0
 |.l p=>2*p.val+1
 |.r p=>2*p.val+2
theorem mN:∀(n k:Nat),k<n→(l9 n k).val=k
 |0,_,h=>absurd h (Nat.not_lt_zero _)
 |n+1,k,h=>by
  have e:l9 (n+1) k=bif Nat.beq k 0 then Pa.e else bif Nat.beq (k % 2) 1 then Pa.l (l9 n (k / 2)) else Pa.r (l9 n (k / 2 - 1)):=by
   show (Bool.rec (Bool.rec (Pa.r (l9 n (k / 2 - 1))) (Pa.l (l9 n (k / 2))) (Nat.beq (k % 2) 1)) Pa.e (Nat.beq k 0):Pa)=_
   cases Nat.beq k 0<;>cases Nat.beq (k % 2) 1<;>rfl
  rw[e,xT,xT]
  by_cases h0:k=0
  ·rw[if_pos h0,h0];rfl
  ·rw[if_neg h0]
   by_cases h1:k % 2=1
   ·rw[if_pos h1]
    show 2*(l9 n (k / 2)).val+1=k
    rw[mN n _ (by omega)];omega
   ·rw[if_neg h1]
    show 2*(l9 n (k / 2 - 1)).val+2=k
    rw[mN n _ (by omega)];omega
theorem pI (k:Nat):(wu k).val=k:=mN (k+1) k (Nat.lt_succ_self k)
theorem Tr.getP_lf:∀p:Pa,Tr.getP p (Tr.lf:Tr α)=none
 |.e=>rfl
 |.l _=>rfl
 |.r _=>rfl
theorem Tr.get_lf (k:Nat):(Tr.lf:Tr α).get k=none:=Tr.getP_lf _
theorem Tr.getP_set:∀(p q:Pa) (t:Tr α) (v:Option α),Tr.getP q (Tr.setP p t v)=if q=p then v else Tr.getP q t
 |.e,.e,t,v=>by rw[if_pos rfl];cases t<;>rfl
 |.e,.l q,t,v=>by
  rw[if_neg (by simp)]
  cases t with
  |lf=>exact Tr.getP_lf q
  |nd=>rfl
 |.e,.r q,t,v=>by
  rw[if_neg (by simp)]
  cases t with
  |lf=>exact Tr.getP_lf q
  |nd=>rfl
 |.l p,.e,t,v=>by rw[if_neg (by simp)];cases t<;>rfl
 |.r p,.e,t,v=>by rw[if_neg (by simp)];cases t<;>rfl
 |.l p,.r q,t,v=>by
  rw[if_neg (by simp)]
  cases t with
  |lf=>exact Tr.getP_lf q
  |nd=>rfl
 |.r p,.l q,t,v=>by
  rw[if_neg (by simp)]
  cases t with
  |lf=>exact Tr.getP_lf q
  |nd=>rfl
 |.l p,.l q,t,v=>by
  have e:(Pa.l q=Pa.l p)=(q=p):=by simp
  simp only[e]
  cases t with
  |lf=>exact (Tr.getP_set p q .lf v).trans (by rw[Tr.getP_lf];rfl)
  |nd u l r=>exact Tr.getP_set p q l v
 |.r p,.r q,t,v=>by
  have e:(Pa.r q=Pa.r p)=(q=p):=by simp
  simp only[e]
  cases t with
  |lf=>exact (Tr.getP_set p q .lf v).trans (by rw[Tr.getP_lf];rfl)
  |nd u l r=>exact Tr.getP_set p q r v
theorem Tr.get_set (t:Tr α) (k:Nat) (v:Option α) (j:Nat):(t.set k v).get j=if j=k then v else t.get j:=by
 unfold Tr.get Tr.set
 rw[Tr.getP_set]
 by_cases h:j=k
 ·rw[if_pos h,if_pos (by rw[h])]
 ·rw[if_neg h,if_neg fun e=>h (by rw[←pI j,←pI k,e])]
end
inductive Cp where
 |ex (m:Nat)
 |en
 |un
inductive EV where
 |u
 |b (x:Bool)
 |i (k:IntKind) (n:Int)
 |s (x:ByteArray)
 |np
 |p (b off:Nat)
 |ns
 |sl (b off n k:Nat) (c:Cp)
 |ag (l:List EV)
 |tu (l:List EV)
 |fn (f:Nat) (a c:List EV)
 |nf
 |ifc (t:Nat) (v:EV)
 |ni
 |m (b:Nat)
 |nm
 |vr (b:Nat)
 |us (lo hi c:Nat)
instance:Inhabited EV:=⟨.u⟩
structure xU where
 r:Nat
 sh:Nat
 κ:Nat
abbrev cN:=Nat→Option xU
def xU.num (q:xU):Int:=(q.r:Int) - (q.sh:Int)
def cN.le (φ ψ:cN):Prop:=∀b q,φ b=some q→ψ b=some q
theorem cN.le.refl (φ:cN):φ.le φ:=fun _ _ h=>h
theorem cN.le.trans {φ ψ χ:cN} (h:φ.le ψ) (k:ψ.le χ):φ.le χ:=fun b q e=>k b q (h b q e)
def cN.put (φ:cN) (b:Nat) (q:xU):cN:=fun x=>if x=b then some q else φ x
theorem cN.put_same (φ:cN) (b:Nat) (q:xU):φ.put b q b=some q:=if_pos rfl
theorem cN.le_put {φ:cN} {b:Nat} (h:φ b=none) (q:xU):φ.le (φ.put b q):=fun x q' e=>by
 unfold cN.put;split
 ·rename_i e';subst e';rw[h] at e;cases e
 ·exact e
def Kw (q:xU) (off k:Nat):Cp→Nat→Prop
 |.ex m,cap=>cap=m
 |.en,cap=>q.sh+off+cap*k=q.κ
 |.un,_=>True
mutual
def aY (φ:cN):EV→Value→Prop
 |.u,_=>True
 |.b x,v=>v=.bool x
 |.i k n,v=>v=.int k n
 |.s x,v=>v=.string x
 |.np,v=>v=.pointer none
 |.p b off,v=>∃q,φ b=some q∧v=.pointer (some ⟨q.r,q.sh+off,none⟩)
 |.ns,v=>v=.slice none 0 0
 |.sl b off n k c,v=>∃q o cap,φ b=some q∧v=.slice (some ⟨q.r,o,none⟩) n cap∧n≤cap∧(cap≠0→o=q.sh+off)∧Kw q off k c cap
 |.ag l,v=>∃vs:List Value,v=.agg vs.toArray∧RelVs φ l vs
 |.tu l,v=>∃vs:List Value,v=.tuple vs.toArray∧RelVs φ l vs
 |.fn f a c,v=>∃vs us:List Value,v=.func (.func f) vs.toArray us.toArray∧RelVs φ a vs∧RelVs φ c us
 |.nf,v=>v=.nilFunc
 |.ifc t x,v=>∃u,v=.iface t u∧aY φ x u
 |.ni,v=>v=.nilIface
 |.m b,v=>∃q,φ b=some q∧v=.map (some q.r)
 |.nm,v=>v=.map none
 |.vr b,v=>∃q,φ b=some q∧v=.int .i64 q.num
 |.us lo hi c,v=>∃s:ByteArray,v=.string s∧lo≤s.data.toList.length∧s.data.toList.length≤hi∧(c=0∨s.data.toList.head?=some (UInt8.ofNat c))
def RelVs (φ:cN):List EV→List Value→Prop
 |[],vs=>vs=[]
 |x::xs,vs=>∃v us,vs=v::us∧aY φ x v∧RelVs φ xs us
end
mutual
theorem aY.mono {φ ψ:cN} (h:φ.le ψ):∀(x:EV) (v:Value),aY φ x v→aY ψ x v
 |.u,_,_=>trivial
 |.b _,_,e=>e
 |.i _ _,_,e=>e
 |.s _,_,e=>e
 |.np,_,e=>e
 |.p _ _,_,⟨q,a,e⟩=>⟨q,h _ _ a,e⟩
 |.ns,_,e=>e
 |.sl _ _ _ _ _,_,⟨q,o,cap,a,e⟩=>⟨q,o,cap,h _ _ a,e⟩
 |.ag l,_,⟨vs,e,k⟩=>⟨vs,e,RelVs.mono h l vs k⟩
 |.tu l,_,⟨vs,e,k⟩=>⟨vs,e,RelVs.mono h l vs k⟩
 |.fn _ a c,_,⟨vs,us,e,k1,k2⟩=>⟨vs,us,e,RelVs.mono h a vs k1,RelVs.mono h c us k2⟩
 |.nf,_,e=>e
 |.ifc _ x,_,⟨u,e,k⟩=>⟨u,e,aY.mono h x u k⟩
 |.ni,_,e=>e
 |.m _,_,⟨q,a,e⟩=>⟨q,h _ _ a,e⟩
 |.nm,_,e=>e
 |.vr _,_,⟨q,a,e⟩=>⟨q,h _ _ a,e⟩
 |.us _ _ _,_,e=>e
theorem RelVs.mono {φ ψ:cN} (h:φ.le ψ):∀(x:List EV) (v:List Value),RelVs φ x v→RelVs ψ x v
 |[],_,e=>e
 |x::xs,_,⟨v,us,e,h1,h2⟩=>⟨v,us,e,aY.mono h x v h1,RelVs.mono h xs us h2⟩
end
section
variable {φ ψ:cN}
theorem RelVs.length:∀{xs:List EV} {vs:List Value},RelVs φ xs vs→vs.length=xs.length
 |[],_,e=>by simp[RelVs] at e;simp[e]
 |x::xs,_,⟨v,us,e,_,h2⟩=>by subst e;simp[RelVs.length h2]
theorem RelVs.get:∀{xs:List EV} {vs:List Value},RelVs φ xs vs→∀{j:Nat} {x:EV},xs[j]?=some x→∃v,vs[j]?=some v∧aY φ x v
 |[],_,_,j,x,hj=>by simp at hj
 |y::ys,_,⟨v,us,e,h1,h2⟩,j,x,hj=>by
  subst e
  cases j with
  |zero=>simp at hj;subst hj;exact ⟨v,rfl,h1⟩
  |succ j=>simp at hj;simpa using RelVs.get h2 hj
theorem RelVs.take:∀{xs:List EV} {vs:List Value},RelVs φ xs vs→∀n,RelVs φ (xs.take n) (vs.take n)
 |[],_,e,n=>by simp[RelVs] at e;simp[e,RelVs]
 |y::ys,_,⟨v,us,e,h1,h2⟩,n=>by
  subst e
  cases n with
  |zero=>simp[RelVs]
  |succ n=>exact ⟨v,us.take n,by simp,h1,RelVs.take h2 n⟩
theorem RelVs.drop:∀{xs:List EV} {vs:List Value},RelVs φ xs vs→∀n,RelVs φ (xs.drop n) (vs.drop n)
 |[],_,e,n=>by simp[RelVs] at e;simp[e,RelVs]
 |y::ys,_,⟨v,us,e,h1,h2⟩,n=>by
  subst e
  cases n with
  |zero=>exact ⟨v,us,rfl,h1,h2⟩
  |succ n=>simpa using RelVs.drop h2 n
theorem RelVs.append:∀{xs ys:List EV} {vs us:List Value},RelVs φ xs vs→RelVs φ ys us→RelVs φ (xs++ys) (vs++us)
 |[],_,_,_,e,h=>by simp[RelVs] at e;simpa [e] using h
 |y::ys,_,_,_,⟨v,us,e,h1,h2⟩,h=>by subst e;exact ⟨v,_,rfl,h1,RelVs.append h2 h⟩
theorem RelVs.one {x:EV} {v:Value} (h:aY φ x v):RelVs φ [x] [v]:=⟨v,[],rfl,h,rfl⟩
def EV.cell:EV→Bool
 |.u | .ag _ | .tu _=>false
 |_=>true
theorem EV.cell_rel {x:EV} {v:Value} (h:aY φ x v) (hc:x.cell=true):v.oneCell'=true:=by
 cases x<;>simp only[aY,EV.cell] at h hc
 all_goals first
  |(cases hc;done)
  |(subst h;rfl)
  |(obtain ⟨_,_,_,_,e,_⟩:=h;subst e;rfl)
  |(obtain ⟨_,_,e,_⟩:=h;subst e;rfl)
  |(obtain ⟨_,e,_⟩:=h;subst e;rfl)
  |(obtain ⟨_,_,e⟩:=h;subst e;rfl)
theorem EV.cells_rel {xs:List EV} {vs:List Value} (h:RelVs φ xs vs) (hc:xs.all EV.cell=true):∀u∈vs,u.oneCell'=true:=by
 intro u hu
 obtain ⟨j,hj⟩:=List.getElem?_of_mem hu
 have hlt:=(List.getElem?_eq_some_iff.1 hj).1
 rw[h.length] at hlt
 obtain ⟨v,hv,hr⟩:=h.get (qq hlt)
 rw[hj] at hv;cases hv
 exact EV.cell_rel hr (List.all_eq_true.1 hc _ (qu hlt))
def EV.cs:EV→List EV
 |.ag l=>l
 |x=>[x]
def EV.sto:EV→Bool
 |.u | .tu _=>false
 |_=>true
theorem EV.cs_rel {x:EV} {v:Value} (h:aY φ x v) (hs:x.sto=true):RelVs φ x.cs v.cells.toList:=by
 cases x<;>simp only[EV.sto] at hs
 all_goals first
  |(cases hs;done)
  |(obtain ⟨vs,rfl,h2⟩:=h;simpa [EV.cs,Value.cells] using h2)
  |skip
 all_goals (
  have hc:=EV.cell_rel h rfl
  have hv:v.cells=#[v]:=by cases v<;>first|rfl|(simp[Value.oneCell'] at hc)
  rw[hv];exact RelVs.one h)
end
inductive VO where
 |cells (ex:Bool) (cs:List EV)
 |kn (cs:List EV)
 |it (s:ByteArray) (p:Nat)
 |mp (es:List (EV × EV))
abbrev Hp:=Tr VO
def cV (φ:cN):List (EV × EV)→List MapEntry→Prop
 |[],es=>es=[]
 |x::xs,es=>∃e r,es=e::r∧aY φ x.1 e.key∧aY φ x.2 e.val∧cV φ xs r
theorem cV.mono {φ ψ:cN} (h:φ.le ψ):∀{x:List (EV × EV)} {v:List MapEntry},cV φ x v→cV ψ x v
 |[],_,e=>e
 |_::_,_,⟨e,r,a,b,c,d⟩=>⟨e,r,a,b.mono h,c.mono h,cV.mono h d⟩
def nE (ms:List MapEntry):Prop:=∀(j:Nat) (e:MapEntry),ms[j]?=some e→e.born=j
def gn (I:aP) (φ:cN) (k:Nat) (o:VO) (A:List (Nat × Obj)):Prop:=
 match o with
 |.cells ex cs=>∃q T vs junk,φ k=some q∧q.sh=0∧RelVs φ cs vs∧(∀u∈vs++junk,u.oneCell'=true)∧(vs++junk).length=q.κ∧(ex=true→junk=[])∧A=[(q.r,.cells (vs++junk).toArray T (0,0))]
 |.kn cs=>∃q vs,φ k=some q∧RelVs φ cs vs∧(∀u∈vs,u.oneCell'=true)∧(∀(j:Nat) u,vs[j]?=some u→B3 I q.r (q.sh+j) u)∧A=[]
 |.it s p=>∃q,φ k=some q∧q.sh=0∧A=[(q.r,.stringIter s p)]
 |.mp es=>∃q ms,φ k=some q∧(cV φ es ms∧nE ms)∧A=[(q.r,.map ms.toArray ms.length)]
theorem gn.mono {I J:aP} {φ ψ:cN} (hI:I.le J) (h:φ.le ψ) {k:Nat} {o:VO} {A:List (Nat × Obj)} (hb:gn I φ k o A):gn J ψ k o A:=by
 cases o<;>simp only[gn] at *
 ·obtain ⟨q,T,vs,junk,h1,h2,h3,h4⟩:=hb;exact ⟨q,T,vs,junk,h _ _ h1,h2,h3.mono h,h4⟩
 ·obtain ⟨q,vs,h1,h2,h3,h4,h5⟩:=hb;exact ⟨q,vs,h _ _ h1,h2.mono h,h3,fun j u e=>(h4 j u e).mono hI,h5⟩
 ·obtain ⟨q,h1,h2⟩:=hb;exact ⟨q,h _ _ h1,h2⟩
 ·obtain ⟨q,ms,h1,h2,h3⟩:=hb;exact ⟨q,ms,h _ _ h1,⟨h2.1.mono h,h2.2⟩,h3⟩
theorem gn.phi {I:aP} {φ:cN} {k:Nat} {o:VO} {A:List (Nat × Obj)} (hb:gn I φ k o A):∃q,φ k=some q:=by
 cases o<;>simp only[gn] at hb
 ·obtain ⟨q,T,vs,junk,h1,_⟩:=hb;exact ⟨q,h1⟩
 ·obtain ⟨q,vs,h1,_⟩:=hb;exact ⟨q,h1⟩
 ·obtain ⟨q,h1,_⟩:=hb;exact ⟨q,h1⟩
 ·obtain ⟨q,ms,h1,_⟩:=hb;exact ⟨q,h1⟩
def gp (I:aP) (φ:cN):List (Nat × VO)→List (Nat × Obj)→Prop
 |[],L=>L=[]
 |x::xs,L=>∃A B,L=A++B∧gn I φ x.1 x.2 A∧gp I φ xs B
theorem gp.mono {I J:aP} {φ ψ:cN} (hI:I.le J) (h:φ.le ψ):∀{M:List (Nat × VO)} {L:List (Nat × Obj)},gp I φ M L→gp J ψ M L
 |[],_,e=>e
 |_::_,_,⟨A,B,e,h1,h2⟩=>⟨A,B,e,h1.mono hI h,gp.mono hI h h2⟩
theorem gp.perm {I:aP} {φ:cN} {M M':List (Nat × VO)} (h:M.Perm M'):∀{L},gp I φ M L→∃L',gp I φ M' L'∧L.Perm L':=by
 induction h with
 |nil=>exact fun h=>⟨_,h,.refl _⟩
 |cons x _ ih=>
  rintro L ⟨A,B,rfl,h1,h2⟩
  obtain ⟨B',h3,h4⟩:=ih h2
  exact ⟨A++B',⟨A,B',rfl,h1,h3⟩,h4.append_left A⟩
 |swap x y _=>
  rintro L ⟨A,B,rfl,h1,C,D,rfl,h2,h3⟩
  exact ⟨C++(A++D),⟨C,A++D,rfl,h2,A,D,rfl,h1,h3⟩,by
   rw[←qs,←qs]
   exact List.perm_append_comm.append_right D⟩
 |trans _ _ ih1 ih2=>
  intro L h
  obtain ⟨L1,h1,p1⟩:=ih1 h
  obtain ⟨L2,h2,p2⟩:=ih2 h1
  exact ⟨L2,h2,p1.trans p2⟩
theorem gp.phi {I:aP} {φ:cN}:∀{M:List (Nat × VO)} {L:List (Nat × Obj)},gp I φ M L→∀x∈M,∃q,φ x.1=some q
 |_::_,_,⟨_,_,_,h1,h2⟩,x,hx=>by
  rcases List.mem_cons.1 hx with rfl|hx
  ·exact h1.phi
  ·exact gp.phi h2 x hx
def qS (I:aP) (φ:cN) (H:Hp) (k:Nat) (L:List (Nat × Obj)):Prop:=
 ∃M,(M.map (·.1)).Nodup∧(∀j o,(j,o)∈M↔j≠k∧H.get j=some o)∧gp I φ M L
structure dg (I:aP) (φ:cN) (H:Hp) (nx:Nat) (F:List (Nat × Obj)) (E w:World):Prop where
 top:∀j,nx≤j→φ j=none
 ex:∃M L,(M.map (·.1)).Nodup∧(∀j o,(j,o)∈M↔H.get j=some o)∧gp I φ M L∧SL I (L++F) E w
section
variable {I J:aP} {φ ψ:cN} {H:Hp} {nx:Nat} {F:List (Nat × Obj)} {E w:World} {k:Nat} {o:VO} {L A:List (Nat × Obj)}
theorem qS.mono (hI:I.le J) (h:φ.le ψ) (hr:qS I φ H k L):qS J ψ H k L:=let ⟨M,a,b,c⟩:=hr;⟨M,a,b,c.mono hI h⟩
theorem dg.pick (h:dg I φ H nx F E w) (hk:H.get k=some o):∃A L,gn I φ k o A∧qS I φ H k L∧SL I (A++(L++F)) E w:=by
 obtain ⟨M,L,hn,hm,hr,hS⟩:=h.ex
 have hmem:=(hm k o).2 hk
 obtain ⟨M1,M2,rfl⟩:=List.append_of_mem hmem
 obtain ⟨L',hr',hp⟩:=hr.perm (M':=(k,o)::(M1++M2)) List.perm_middle
 obtain ⟨A,B,rfl,h1,h2⟩:=hr'
 have hn2:(((k,o)::(M1++M2)).map (·.1)).Nodup:=((List.perm_middle (a:=(k,o)) (l₁:=M1) (l₂:=M2)).map (·.1)).nodup_iff.1 hn
 simp only[List.map_cons,List.nodup_cons] at hn2
 refine ⟨A,B,h1,⟨M1++M2,hn2.2,fun j o'=>?_,h2⟩,hS.perm ?_⟩
 ·rw[←hm j o']
  constructor
  ·intro hj
   refine ⟨fun e=>hn2.1 (List.mem_map.2 ⟨(j,o'),hj,e⟩),?_⟩
   rw[(List.perm_middle (a:=(k,o)) (l₁:=M1) (l₂:=M2)).mem_iff]
   exact List.mem_cons_of_mem _ hj
  ·rintro ⟨hne,hj⟩
   rw[(List.perm_middle (a:=(k,o)) (l₁:=M1) (l₂:=M2)).mem_iff] at hj
   rcases List.mem_cons.1 hj with e|hj
   ·cases e;exact absurd rfl hne
   ·exact hj
 ·rw[←qs];exact (hp.append_right F).symm
theorem dg.close (hr:qS I φ H k L) (hb:gn I φ k o A) (hS:SL I (A++(L++F)) E w) (ht:∀j,nx≤j→φ j=none):dg I φ (H.set k (some o)) nx F E w:=by
 obtain ⟨M,hn,hm,hr⟩:=hr
 refine ⟨ht,(k,o)::M,A++L,?_,fun j o'=>?_,⟨A,L,Z,hb,hr⟩,by rw[qs];exact hS⟩
 ·simp only[List.map_cons,List.nodup_cons]
  refine ⟨fun hk=>?_,hn⟩
  obtain ⟨x,hx,e⟩:=List.mem_map.1 hk
  exact ((hm x.1 x.2).1 hx).1 e
 ·rw[Tr.get_set,List.mem_cons,hm j o']
  by_cases e:j=k
  ·rw[if_pos e];subst e;simp[eq_comm]
  ·rw[if_neg e];simp[e]
theorem dg.gone (hr:qS I φ H k L) (hS:SL I (L++F) E w) (ht:∀j,nx≤j→φ j=none):dg I φ (H.set k none) nx F E w:=by
 obtain ⟨M,hn,hm,hr⟩:=hr
 refine ⟨ht,M,L,hn,fun j o'=>?_,hr,hS⟩
 rw[Tr.get_set,hm j o']
 by_cases e:j=k
 ·rw[if_pos e];simp[e]
 ·rw[if_neg e];simp[e]
theorem dg.mono (h:dg I φ H nx F E w) {n':Nat} (hn:nx≤n'):dg I φ H n' F E w:=⟨fun j hj=>h.top j (Nat.le_trans hn hj),h.ex⟩
theorem dg.drew (h:dg I φ H nx F E w):dg I φ H nx F E w.drew:=let ⟨M,L,a,b,c,d⟩:=h.ex;⟨h.top,M,L,a,b,c,d.drew⟩
theorem dg.sl (h:dg I φ H nx F E w):SL I F E w:=let ⟨_,_,_,_,_,d⟩:=h.ex;d.dropAll
def VO.cs?:VO→Option (List EV)
 |.cells _ cs=>some cs
 |.kn cs=>some cs
 |_=>none
theorem dg.read (h:dg I φ H nx F E w) (hk:H.get k=some o) {cs:List EV} (hc:o.cs?=some cs) {q:xU} (hq:φ k=some q) :
  ∃vs,RelVs φ cs vs∧(∀u∈vs,u.oneCell'=true)∧∀(j:Nat) v,vs[j]?=some v→w.cell? ⟨q.r,q.sh+j,none⟩=some v:=by
 obtain ⟨A,L,hb,_,hS⟩:=h.pick hk
 cases o<;>simp only[VO.cs?] at hc
 ·cases hc
  obtain ⟨q',T,vs,junk,h1,h2,h3,h4,h5,h6,rfl⟩:=hb
  rw[hq] at h1;cases h1
  refine ⟨vs,h3,fun u hu=>h4 u (List.mem_append_left _ hu),fun j v hj=>?_⟩
  rw[SL.cell_own (c:=(vs++junk).toArray) (T:=T) (f:=(0,0)) (O:=L++F) hS,h2,Nat.zero_add,List.getElem?_toArray,List.getElem?_append_left (List.getElem?_eq_some_iff.1 hj).1]
  exact hj
 ·cases hc
  obtain ⟨q',vs,h1,h2,h3,h4,rfl⟩:=hb
  rw[hq] at h1;cases h1
  exact ⟨vs,h2,h3,fun j v hj=>hS.at_ ((h4 j v hj).at_ _)⟩
 ·cases hc
 ·cases hc
end
def eF (φ:cN) (g:Nat→EV) (ρ:bU):Prop:=∀t,aY φ (g t) (ρ t)
theorem eF.mono {φ ψ:cN} (h:φ.le ψ) {g:Nat→EV} {ρ:bU} (hr:eF φ g ρ):eF ψ g ρ:=fun t=>(hr t).mono h
end
section
open Go.Proofs.Tryz
structure TI where
 d:TypeDesc
 size:Nat
 bytes:Nat
 z:List EV
 v:EV
 g:Bool
 q:Bool
 ms:String→Option Nat
 mi:Array (String × TypeId)→Bool
def ER:TypeDesc→Bool
 |.struct _=>true
 |.array _ _=>true
 |_=>false
structure sO (P:Program) (t:TypeId) (i:TI):Prop where
 und:P.underlying t=some i.d
 inf:∃f zv,P.info? t=some f∧f.size=i.size∧f.bytes=i.bytes∧f.zero=some zv∧(∀φ,RelVs φ i.z zv.cells.toList)∧∀φ,aY φ i.v zv
 z1:i.z.all EV.cell=true
 zl:i.z.length=i.size
 gd:i.g=true→P.eqGuardType P.depth t=false
 qd:i.q=true→P.stoodInHeld t=false∧∀fs,i.d=.struct fs→∀f∈fs.toList,f.name≠"_"
 mt:∀nm f,i.ms nm=some f→∀(k:Nat) (v:Value) (w:World),(method (k+1) t v nm).run P w=.ok (f,v) w
 md:∃f,P.info? t=some f∧∀want,(Instr.missingMethod want f.methods).isNone=i.mi want
abbrev TT:=Nat→Option TI
def cW (P:Program) (T:TT):Prop:=∀t i,T t=some i→sO P t i
section
variable {P:Program} {t:TypeId} {i:TI} (h:sO P t i)
include h
theorem sO.sz (w:World):(sizeOf t).run P w=.ok i.size w:=by
 obtain ⟨f,zv,h1,h2,_⟩:=h.inf
 simp[sizeOf,typeInfo,h1,h2]
theorem sO.agg (w:World):(isAgg t).run P w=.ok (ER i.d) w:=by
 unfold isAgg
 rw[Sem.run_bind,run_underlying h.und]
 cases i.d<;>rfl
theorem sO.zero:∃zv,(∀w,(zeroValue t).run P w=.ok zv w)∧(∀φ,RelVs φ i.z zv.cells.toList)∧zv.cells.size=i.size:=by
 obtain ⟨f,zv,h1,h2,h3,h4,h5⟩:=h.inf
 refine ⟨zv,fun w=>by simp[zeroValue,typeInfo,h1,h4],h5.1,?_⟩
 have:=(h5.1 (fun _=>none)).length
 rw[h.zl] at this
 simpa using this
theorem sO.zeroV:∃zv,(∀w,(zeroValue t).run P w=.ok zv w)∧∀φ,aY φ i.v zv:=by
 obtain ⟨f,zv,h1,h2,h3,h4,h5⟩:=h.inf
 exact ⟨zv,fun w=>by simp[zeroValue,typeInfo,h1,h4],h5.2⟩
end
section
variable {φ:cN}
theorem RelVs.r1 {x:EV} {a:Value} (h:RelVs φ [x] [a]):aY φ x a:=by
 obtain ⟨v,us,e,h1,h2⟩:=h;cases e;exact h1
end
def qT (a b:ByteArray):Bool:=beqL a.data.toList b.data.toList
where
 beqL:List UInt8→List UInt8→Bool
  |[],[]=>true
  |x::l,y::m=>Nat.beq x.toNat y.toNat&&beqL l m
  |_,_=>false
theorem xV:∀(a b:List UInt8),qT.beqL a b=decide (a=b)
 |[],[]=>rfl
 |[],_::_=>rfl
 |_::_,[]=>rfl
 |x::l,y::m=>by
  unfold qT.beqL
  rw[xV l m]
  by_cases h:x=y
  ·subst h
   rw[show Nat.beq x.toNat x.toNat=true from Nat.beq_refl _]
   by_cases h2:l=m<;>simp[h2]
  ·have:Nat.beq x.toNat y.toNat=false:=by
    cases e:Nat.beq x.toNat y.toNat with
    |false=>rfl
    |true=>exact absurd (UInt8.toNat_inj.1 (Nat.eq_of_beq_eq_true e)) h
   rw[this];simp[h]
theorem iT (a b:ByteArray):qT a b=decide (a=b):=by
 unfold qT
 rw[xV]
 rw[decide_eq_decide]
 constructor
 ·intro h;cases a;cases b;simp only[ByteArray.mk.injEq];exact Array.toList_inj.1 h
 ·intro h;rw[h]
noncomputable def ET (op:BinOp) (k:IntKind) (a b:Int):Option EV:=
 match op with
 |.add=>some (.i k (k.wrap (a+b)))
 |.sub=>some (.i k (k.wrap (a - b)))
 |.mul=>some (.i k (k.wrap (a*b)))
 |.quo=>if b=0 then none else some (.i k (k.wrap (a.tdiv b)))
 |.rem=>if b=0 then none else some (.i k (a.tmod b))
 |.and=>some (.i k (k.wrap (BitVec.ofInt k.bits a &&& BitVec.ofInt k.bits b).toNat))
 |.or=>some (.i k (k.wrap (BitVec.ofInt k.bits a ||| BitVec.ofInt k.bits b).toNat))
 |.xor=>some (.i k (k.wrap (BitVec.ofInt k.bits a ^^^ BitVec.ofInt k.bits b).toNat))
 |.andNot=>some (.i k (k.wrap (BitVec.ofInt k.bits a &&& ~~~BitVec.ofInt k.bits b).toNat))
 |.eql=>some (.b (a == b))
 |.neq=>some (.b (a != b))
 |.lss=>some (.b (decide (a<b)))
 |.leq=>some (.b (decide (a≤b)))
 |.gtr=>some (.b (decide (b<a)))
 |.geq=>some (.b (decide (b≤a)))
 |.shl | .shr=>none
noncomputable def G4 (op:BinOp) (k:IntKind) (a b:Int):Option EV:=
 if b<0 then none else
 match op with
 |.shl=>some (.i k (k.wrap (a*2 ^ min b.toNat k.bits)))
 |.shr=>some (.i k (a.fdiv (2 ^ min b.toNat k.bits)))
 |_=>none
noncomputable def EU (op:BinOp) (a b:ByteArray):Option EV:=
 match op with
 |.eql=>some (.b (qT a b))
 |.neq=>some (.b (!qT a b))
 |.add=>if Nat.ble (a.data.toList.length+b.data.toList.length) 1000000 then some (.s ⟨(a.data.toList++b.data.toList).toArray⟩) else none
 |_=>none
noncomputable def rT (d:TypeDesc) (x y:EV):Option Bool:=
 match d,x,y with
 |.pointer _,.np,.np=>some true
 |.pointer _,.p _ _,.np=>some false
 |.slice _,.ns,.ns=>some true
 |.slice _,.sl _ _ _ _ _,.ns=>some false
 |.map _ _,.nm,.nm=>some true
 |.map _ _,.m _,.nm=>some false
 |_,_,_=>none
def Lj (a:ByteArray) (c:Nat):Nat:=match a.data.toList with | []=>c|d::_=>d.toNat
noncomputable def xW (T:TT) (op:BinOp) (t:TypeId) (o:Operand) (x y:EV):Option EV:=
 match x,y with
 |.i k a,.i k' b=>match op with
  |.shl=>G4 .shl k a b
  |.shr=>G4 .shr k a b
  |_=>if k=k' then ET op k a b else none
 |.s a,.s b=>EU op a b
 |.s a,.us lo hi c=>match op with
  |.add=>bif Nat.ble (a.data.toList.length+hi) 1000000 then some (.us (a.data.toList.length+lo) (a.data.toList.length+hi) (Lj a c)) else none
  |_=>none
 |.b a,.b b=>match op,(T t).map (·.d) with
  |.eql,some TypeDesc.bool=>some (.b (a == b))
  |.neq,some TypeDesc.bool=>some (.b (!(a == b)))
  |_,_=>none
 |x,y=>match op,T t with
  |.eql,some i=>(rT i.d x y).map EV.b
  |.neq,some i=>(rT i.d x y).map fun z=>.b (!z)
  |_,_=>none
noncomputable def G5 (op:UnOp) (x:EV):Option EV:=
 match op,x with
 |.not,.b a=>some (.b (!a))
 |.neg,.i k a=>some (.i k (k.wrap (0 - a)))
 |_,_=>none
section
variable {P:Program} {φ:cN} {ρ:bU} {w:World} {T:TT} {o:Oper} {t:TypeId}
theorem EW {op:BinOp} {k:IntKind} {a b:Int} {x:EV} (h:ET op k a b=some x):∃v,(binOp op t (.int k a) (.int k b)).run P w=.ok v w∧aY φ x v:=by
 cases op<;>simp only[ET] at h
 case quo=>split at h<;>first|(cases h;done)|(cases h;rename_i hb;exact ⟨_,by simp[binOp,Op.intDiv,hb],rfl⟩)
 case rem=>split at h<;>first|(cases h;done)|(cases h;rename_i hb;exact ⟨_,by simp[binOp,Op.intDiv,hb],rfl⟩)
 case shl=>cases h
 case shr=>cases h
 case add=>cases h;exact ⟨_,by rw[show binOp .add t (.int k a) (.int k b)=Op.intArith .add k a b by simp[binOp]];rfl,rfl⟩
 case sub=>cases h;exact ⟨_,by rw[show binOp .sub t (.int k a) (.int k b)=Op.intArith .sub k a b by simp[binOp]];rfl,rfl⟩
 case mul=>cases h;exact ⟨_,by rw[show binOp .mul t (.int k a) (.int k b)=Op.intArith .mul k a b by simp[binOp]];rfl,rfl⟩
 case and=>cases h;exact ⟨_,by rw[binOp_and];rfl,rfl⟩
 case or=>cases h;exact ⟨_,by rw[binOp_or];rfl,rfl⟩
 case xor=>cases h;exact ⟨_,by rw[binOp_xor];rfl,rfl⟩
 case andNot=>cases h;exact ⟨_,by rw[binOp_andNot];rfl,rfl⟩
 case eql=>cases h;exact ⟨_,by rw[binOp_eql];rfl,rfl⟩
 case neq=>cases h;exact ⟨_,by rw[binOp_neq];rfl,rfl⟩
 case lss=>cases h;exact ⟨_,by rw[binOp_lss];rfl,rfl⟩
 case leq=>cases h;exact ⟨_,by rw[binOp_leq];rfl,rfl⟩
 case gtr=>cases h;exact ⟨_,by rw[binOp_gtr];rfl,rfl⟩
 case geq=>cases h;exact ⟨_,by rw[binOp_geq];rfl,rfl⟩
theorem xX {op:BinOp} {k k':IntKind} {a b:Int} {x:EV} (ho:op=.shl∨op=.shr) (h:G4 op k a b=some x):∃v,(binOp op t (.int k a) (.int k' b)).run P w=.ok v w∧aY φ x v:=by
 unfold G4 at h
 split at h
 ·cases h
 ·rename_i hb
  rcases ho with rfl|rfl<;>(cases h;exact ⟨_,by simp[binOp,Op.shift,hb],rfl⟩)
theorem C7 (a b:ByteArray):(⟨(a.data.toList++b.data.toList).toArray⟩:ByteArray)=a++b:=by
 have:(a++b).data=a.data++b.data:=ByteArray.data_append
 cases hab:a++b with
 |mk d=>
  rw[hab] at this
  simp only at this
  rw[this];congr 1;simp
theorem uO {op:BinOp} {a b:ByteArray} {x:EV} (h:EU op a b=some x):∃v,(binOp op t (.string a) (.string b)).run P w=.ok v w∧aY φ x v:=by
 cases op<;>simp only[EU] at h
 case add=>
  split at h
  ·rename_i hl
   cases h
   have hl:=Nat.le_of_ble_eq_true hl
   refine ⟨.string (a++b),?_,by rw[C7];rfl⟩
   have h2:¬((a.size+b.size:Nat):Int)>IntKind.i64.max:=by
    have e1:a.size=a.data.toList.length:=by rw[Array.length_toList];rfl
    have e2:b.size=b.data.toList.length:=by rw[Array.length_toList];rfl
    have:IntKind.i64.max=9223372036854775807:=by decide
    rw[this];omega
   simp only[binOp,Op.stringOp]
   rw[if_neg h2];rfl
  ·cases h
 case eql=>cases h;refine ⟨.bool (a.toList == b.toList),by rw[binOp_string_eql];rfl,?_⟩;show Value.bool _=Value.bool _;rw[lF,iT]
 case neq=>cases h;refine ⟨.bool (!a.toList == b.toList),by rw[binOp_string_neq];rfl,?_⟩;show Value.bool _=Value.bool _;rw[lF,iT]
 all_goals cases h
theorem uP {d:TypeDesc} {x y:EV} {a c:Value} {b:Bool} {op:BinOp} {p q:Operand} (h:rT d x y=some b) (hd:P.underlying t=some d) (hx:aY φ x a) (hy:aY φ y c) :
  (eqGuard op t p q a c).run P w=.ok () w∧(binOp .eql t a c).run P w=.ok (.bool b) w∧(binOp .neq t a c).run P w=.ok (.bool (!b)) w:=by
 unfold rT at h
 split at h
 case h_1 e=>
  have hx:a=.pointer none:=hx
  have hy:c=.pointer none:=hy
  have hp:P.pointee t=e:=by unfold Program.pointee;rw[hd]
  cases h;subst hx hy
  exact ⟨iX,run_eql_pointer_nil w t none (by rw[hp];exact hd),run_neq_pointer_nil w t none (by rw[hp];exact hd)⟩
 case h_2 e _ _=>
  obtain ⟨_,_,rfl⟩:=hx
  have hy:c=.pointer none:=hy
  have hp:P.pointee t=e:=by unfold Program.pointee;rw[hd]
  cases h;subst hy
  exact ⟨iX,run_eql_pointer_nil w t _ (by rw[hp];exact hd),run_neq_pointer_nil w t _ (by rw[hp];exact hd)⟩
 case h_3 e=>
  have hx:a=.slice none 0 0:=hx
  have hy:c=.slice none 0 0:=hy
  cases h;subst hx hy
  exact ⟨gS,Lib.run_eql_slice_nil w t e none 0 0 0 0 hd,run_neq_slice_nil_any w t e none 0 0 0 0 hd⟩
 case h_4 e _ _ _ _ _=>
  obtain ⟨_,_,_,_,rfl,_⟩:=hx
  have hy:c=.slice none 0 0:=hy
  cases h;subst hy
  exact ⟨gS,Lib.run_eql_slice_nil w t e _ _ _ 0 0 hd,run_neq_slice_nil_any w t e _ _ _ 0 0 hd⟩
 case h_5 k e=>
  have hx:a=.map none:=hx
  have hy:c=.map none:=hy
  cases h;subst hx hy
  exact ⟨by unfold eqGuard;cases op<;>rfl,run_eql_map_nil w t k e none hd,Go.run_neq_map_nil w t k e none hd⟩
 case h_6 k e _=>
  obtain ⟨_,_,rfl⟩:=hx
  have hy:c=.map none:=hy
  cases h;subst hy
  exact ⟨by unfold eqGuard;cases op<;>rfl,run_eql_map_nil w t k e _ hd,Go.run_neq_map_nil w t k e _ hd⟩
 case h_7=>cases h
theorem EX (hT:cW P T) {op:BinOp} {p q:Operand} {x y z:EV} {a c:Value} (h:xW T op t q x y=some z) (hx:aY φ x a) (hy:aY φ y c) :
  ∃v,(do eqGuard op t p q a c;binOp op t a c:Sem Value).run P w=.ok v w∧aY φ z v:=by
 unfold xW at h
 split at h
 ·rename_i k a' k' b'
  have hx:a=.int k a':=hx
  have hy:c=.int k' b':=hy
  subst hx hy
  have hg:(eqGuard op t p q (.int k a') (.int k' b')).run P w=.ok () w:=by unfold eqGuard;cases op<;>rfl
  rw[Sem.run_bind,hg]
  split at h
  ·exact xX (.inl rfl) h
  ·exact xX (.inr rfl) h
  ·split at h
   ·rename_i e;subst e;exact EW h
   ·cases h
 ·rename_i a' b'
  have hx:a=.string a':=hx
  have hy:c=.string b':=hy
  subst hx hy
  rw[Sem.run_bind,eH]
  exact uO h
 ·rename_i a' lo hi cc
  have hx:a=.string a':=hx
  obtain ⟨b',hy,h1,h2,h3⟩:=hy
  subst hx hy
  split at h
  ·cases hl:Nat.ble (a'.data.toList.length+hi) 1000000 with
   |false=>rw[hl] at h;cases h
   |true=>
    rw[hl] at h;cases h
    have hl:=Nat.le_of_ble_eq_true hl
    rw[Sem.run_bind,eH]
    obtain ⟨v,g1,g2⟩:=uO (P:=P) (w:=w) (φ:=φ) (t:=t) (op:=.add) (a:=a') (b:=b') (x:=.s ⟨(a'.data.toList++b'.data.toList).toArray⟩) (if_pos (Nat.ble_eq_true_of_le (by omega)))
    have e:(⟨(a'.data.toList++b'.data.toList).toArray⟩:ByteArray).data.toList.length=a'.data.toList.length+b'.data.toList.length:=qw
    refine ⟨v,g1,_,g2,by rw[e];omega,by rw[e];omega,?_⟩
    show Lj a' cc=0∨(a'.data.toList++b'.data.toList).head?=some (UInt8.ofNat (Lj a' cc))
    unfold Lj
    cases a'.data.toList with
    |nil=>exact h3
    |cons d r=>exact .inr (congrArg some (UInt8.ofNat_toNat).symm)
  ·cases h
 ·rename_i a' b'
  have hx:a=.bool a':=hx
  have hy:c=.bool b':=hy
  subst hx hy
  rw[Sem.run_bind,iI]
  split at h
  ·rename_i hd
   cases h
   cases hi:T t with
   |none=>rw[hi] at hd;cases hd
   |some i=>
    rw[hi] at hd
    have hd2:=(hT t i hi).und
    simp only[Option.map_some,Option.some.injEq] at hd
    rw[hd] at hd2
    exact ⟨_,run_eql_bool w t a' b' hd2,rfl⟩
  ·rename_i hd
   cases h
   cases hi:T t with
   |none=>rw[hi] at hd;cases hd
   |some i=>
    rw[hi] at hd
    have hd2:=(hT t i hi).und
    simp only[Option.map_some,Option.some.injEq] at hd
    rw[hd] at hd2
    exact ⟨_,run_neq_bool w t a' b' hd2,rfl⟩
  ·cases h
 ·split at h
  ·rename_i i hi
   cases hn:rT i.d x y with
   |none=>rw[hn] at h;cases h
   |some b=>
    rw[hn] at h;cases h
    obtain ⟨h1,h2,_⟩:=uP (op:=.eql) (p:=p) (q:=q) (w:=w) hn (hT t i hi).und hx hy
    rw[Sem.run_bind,h1]
    exact ⟨_,h2,rfl⟩
  ·rename_i i hi
   cases hn:rT i.d x y with
   |none=>rw[hn] at h;cases h
   |some b=>
    rw[hn] at h;cases h
    obtain ⟨h1,_,h2⟩:=uP (op:=.neq) (p:=p) (q:=q) (w:=w) hn (hT t i hi).und hx hy
    rw[Sem.run_bind,h1]
    exact ⟨_,h2,rfl⟩
  ·cases h
theorem G6 {op:UnOp} {x z:EV} {a:Value} (h:G5 op x=some z) (hx:aY φ x a):∃v,(Op.unary op a).run P w=.ok v w∧aY φ z v:=by
 unfold G5 at h
 split at h
 ·have hx:a=.bool _:=hx
  cases h;subst hx;exact ⟨_,rfl,rfl⟩
 ·have hx:a=.int _ _:=hx
  cases h;subst hx;exact ⟨_,by simp[Op.unary,Op.intArith],rfl⟩
 ·cases h
end
noncomputable def pJ (T:TT) (H:Hp) (t b off:Nat):Option EV:=
 match T t,(H.get b).bind VO.cs? with
 |some i,some cs=>bif ER i.d then (bif Nat.ble (off+i.size) cs.length then some (.ag ((cs.drop off).take i.size)) else none) else cs[off]?
 |_,_=>none
noncomputable def dV (T:TT) (t:TypeId) (cs:List EV) (off:Nat):Option EV:=
 match T t with
 |some i=>bif ER i.d then some (.ag ((cs.drop off).take i.size)) else cs[off]?
 |none=>none
def sP (T:TT) (t f:Nat):Option Field:=
 match T t with
 |some i=>match i.d with
  |.struct fs=>fs[f]?
  |_=>none
 |none=>none
noncomputable def n6 (T:TT) (t f b off:Nat):Option EV:=
 match sP T t f with
 |some fd=>match T fd.type with
  |some i=>bif Nat.beq i.size 0 then none else some (.p b (off+fd.offset))
  |none=>none
 |none=>none
noncomputable def oa (T:TT) (t f:Nat) (cs:List EV):Option EV:=
 match sP T t f with
 |some fd=>dV T fd.type cs fd.offset
 |none=>none
def kl (n:Int):Option Nat:=
 match n with
 |.ofNat j=>some j
 |_=>none
noncomputable def sQ (T:TT) (t:Nat) (x:EV) (n:Int):Option EV:=
 match T t,kl n with
 |some i,some j=>match i.d,x with
  |.slice e,.sl b off len _ _=>match T e with
   |some ie=>bif Nat.blt j len then some (.p b (off+j*ie.size)) else none
   |none=>none
  |.array len e,.p b off=>match T e with
   |some ie=>bif Nat.blt j len then some (.p b (off+j*ie.size)) else none
   |none=>none
  |_,_=>none
 |_,_=>none
noncomputable def xY (T:TT) (t:Nat) (x:EV) (n:Int):Option EV:=
 match T t,kl n with
 |some i,some j=>match i.d,x with
  |.string,.s s=>(s.data.toList[j]?).map fun c=>.i .u8 c.toNat
  |.array len e,.ag cs=>match T e with
   |some ie=>bif Nat.blt j len then dV T e cs (j*ie.size) else none
   |none=>none
  |_,_=>none
 |_,_=>none
section
variable {P:Program} {φ:cN} {w:World} {T:TT} {I:aP} {H:Hp} {nx:Nat} {F:List (Nat × Obj)} {E:World}
theorem rU (hT:cW P T) (hR:dg I φ H nx F E w) {t b off:Nat} {z:EV} {a:Value} (h:pJ T H t b off=some z) (hx:aY φ (.p b off) a) :
  ∃v,(Instr.loadAt t a).run P w=.ok v w∧aY φ z v:=by
 obtain ⟨q,hq,rfl⟩:=hx
 unfold pJ at h
 split at h
 ·rename_i i cs hi hc
  obtain ⟨o,ho,hoc⟩:=Option.bind_eq_some_iff.1 hc
  have hTi:=hT t i hi
  obtain ⟨vs,h1,h2,h3⟩:=hR.read ho hoc hq
  cases hd:ER i.d with
  |true=>
   rw[hd] at h
   simp only[cond_true] at h
   cases hb:Nat.ble (off+i.size) cs.length with
   |false=>rw[hb] at h;cases h
   |true=>
    rw[hb] at h;cases h
    have hb:=Nat.le_of_ble_eq_true hb
    have hl:((vs.drop off).take i.size).length=i.size:=by rw[w3,List.length_drop,h1.length];omega
    refine ⟨.agg ((vs.drop off).take i.size).toArray,?_,_,Z,(h1.drop off).take i.size⟩
    have hrun:=fE (P:=P) (T:=t) (b:=q.r) (off:=q.sh+off) (cs:=(vs.drop off).take i.size) (w:=w) (fun w=>by rw[hTi.agg,hd]) (fun w=>by rw[hl];exact hTi.sz w) (fun j v hj=>by
     have hjl:=(List.getElem?_eq_some_iff.1 hj).1
     rw[hl] at hjl
     rw[List.getElem?_take_of_lt hjl,List.getElem?_drop] at hj
     rw[Nat.add_assoc];exact h3 _ _ hj)
    simp[Instr.loadAt,Instr.sureAddr,hrun]
  |false=>
   rw[hd] at h
   simp only[cond_false] at h
   obtain ⟨v,hv,hr⟩:=h1.get h
   refine ⟨v,?_,hr⟩
   have hrun:=nl (P:=P) (T:=t) (b:=q.r) (off:=q.sh+off) (v:=v) (w:=w) (fun w=>by rw[hTi.agg,hd]) (h3 _ _ hv)
   simp[Instr.loadAt,Instr.sureAddr,hrun]
 ·cases h
theorem fh (hT:cW P T) {t off:Nat} {cs:List EV} {vs:List Value} {z:EV} (h:dV T t cs off=some z) (hx:RelVs φ cs vs):∃v,(part t vs.toArray off).run P w=.ok v w∧aY φ z v:=by
 unfold dV at h
 split at h
 ·rename_i i hi
  have hTi:=hT t i hi
  cases hd:ER i.d with
  |true=>
   rw[hd] at h;cases h
   refine ⟨.agg ((vs.drop off).take i.size).toArray,?_,_,Z,(hx.drop off).take i.size⟩
   simp[part,hTi.agg,hd,hTi.sz]
  |false=>
   rw[hd] at h
   obtain ⟨v,hv,hr⟩:=hx.get h
   exact ⟨v,by simp[part,hTi.agg,hd,hv],hr⟩
 ·cases h
theorem rV (hT:cW P T) {t f:Nat} {fd:Field} (h:sP T t f=some fd):∃fs,P.underlying t=some (.struct fs)∧fs[f]?=some fd:=by
 unfold sP at h
 split at h
 ·rename_i i hi
  split at h
  ·rename_i fs hd
   exact ⟨fs,hd▸(hT t i hi).und,h⟩
  ·cases h
 ·cases h
theorem wv (hT:cW P T) {t f b off:Nat} {z:EV} {a:Value} (h:n6 T t f b off=some z) (hx:aY φ (.p b off) a):∃v,(Instr.fieldAt t a f).run P w=.ok v w∧aY φ z v:=by
 obtain ⟨q,hq,rfl⟩:=hx
 unfold n6 at h
 split at h
 ·rename_i fd hfd
  obtain ⟨fs,h1,h2⟩:=rV hT hfd
  split at h
  ·rename_i i hi
   have hTi:=hT _ i hi
   cases hz:Nat.beq i.size 0 with
   |true=>rw[hz] at h;cases h
   |false=>
    rw[hz] at h;cases h
    have hne:i.size≠0:=fun e=>by rw[e] at hz;cases hz
    refine ⟨.pointer (some ⟨q.r,q.sh+off+fd.offset,none⟩),?_,q,hq,by rw[Nat.add_assoc]⟩
    simp[Instr.fieldAt,run_underlying h1,h2,Instr.sureAddr,fieldPlace,hTi.sz,hne,bK]
  ·cases h
 ·cases h
theorem ww (hT:cW P T) {t f:Nat} {cs:List EV} {z:EV} {a:Value} (h:oa T t f cs=some z) (hx:aY φ (.ag cs) a):∃v,(Instr.field t a f).run P w=.ok v w∧aY φ z v:=by
 obtain ⟨vs,rfl,hx⟩:=hx
 unfold oa at h
 split at h
 ·rename_i fd hfd
  obtain ⟨fs,h1,h2⟩:=rV hT hfd
  obtain ⟨v,h3,h4⟩:=fh (w:=w) hT h hx
  refine ⟨v,?_,h4⟩
  simp[Instr.field,run_underlying h1,h2,asAgg,h3]
 ·cases h
theorem gq {n:Int} {j:Nat} (h:kl n=some j):n=(j:Int):=by
 unfold kl at h
 split at h
 ·cases h;rfl
 ·cases h
theorem C8 (hT:cW P T) {t:Nat} {x:EV} {k:IntKind} {n:Int} {z:EV} {a c:Value} (h:sQ T t x n=some z) (hx:aY φ x a) (hy:aY φ (.i k n) c):∃v,(Instr.indexAt t a c).run P w=.ok v w∧aY φ z v:=by
 have hy:c=.int k n:=hy
 subst hy
 unfold sQ at h
 split at h
 ·rename_i i j hi hj
  have hj:=gq hj
  subst hj
  have hTi:=hT t i hi
  split at h
  ·rename_i e b off len _ _ hd
   have hu:=hd▸hTi.und
   obtain ⟨q,o,cap,hq,rfl,h1,h2,_⟩:=hx
   split at h
   ·rename_i ie hie
    have hTe:=hT e ie hie
    cases hb:Nat.blt j len with
    |false=>rw[hb] at h;cases h
    |true=>
     rw[hb] at h;cases h
     have hb:j<len:=Nat.le_of_ble_eq_true hb
     have ho:=h2 (by omega)
     subst ho
     refine ⟨.pointer (some ⟨q.r,q.sh+off+j*ie.size,none⟩),?_,q,hq,by rw[Nat.add_assoc]⟩
     simp[Instr.indexAt,asIntOf,run_underlying hu,hTe.sz,hb,bK]
   ·cases h
  ·rename_i len e b off hd
   have hu:=hd▸hTi.und
   obtain ⟨q,hq,rfl⟩:=hx
   split at h
   ·rename_i ie hie
    have hTe:=hT e ie hie
    cases hb:Nat.blt j len with
    |false=>rw[hb] at h;cases h
    |true=>
     rw[hb] at h;cases h
     have hb:j<len:=Nat.le_of_ble_eq_true hb
     refine ⟨.pointer (some ⟨q.r,q.sh+off+j*ie.size,none⟩),?_,q,hq,by rw[Nat.add_assoc]⟩
     by_cases h1:len≤1
     ·simp[Instr.indexAt,asIntOf,run_underlying hu,hTe.sz,hb,bK,Instr.sureAddr,h1]
     ·simp[Instr.indexAt,asIntOf,run_underlying hu,hTe.sz,hb,bK,Instr.sureAddr,h1]
   ·cases h
  ·cases h
 ·cases h
theorem EY (hT:cW P T) {t:Nat} {x:EV} {k:IntKind} {n:Int} {z:EV} {a c:Value} (h:xY T t x n=some z) (hx:aY φ x a) (hy:aY φ (.i k n) c):∃v,(Instr.index t a c).run P w=.ok v w∧aY φ z v:=by
 have hy:c=.int k n:=hy
 subst hy
 unfold xY at h
 split at h
 ·rename_i i j hi hj
  have hj:=gq hj
  subst hj
  have hTi:=hT t i hi
  split at h
  ·rename_i s hd
   have hu:=hd▸hTi.und
   have hx:a=.string s:=hx
   subst hx
   obtain ⟨c,hc,rfl⟩:=Option.map_eq_some_iff.1 h
   have hv:s.data[j]?=some c:=by rw[←hc];simp
   have hj:s[j]?=some c:=by
    obtain ⟨h1,h2⟩:=Array.getElem?_eq_some_iff.1 hv
    show (if h:j<s.size then some s[j] else none)=some c
    rw[dif_pos (show j<s.size from h1)];exact congrArg some h2
   exact ⟨.int .u8 c.toNat,by simp[Instr.index,asIntOf,run_underlying hu,hj],rfl⟩
  ·rename_i len e cs hd
   have hu:=hd▸hTi.und
   obtain ⟨vs,rfl,hx⟩:=hx
   split at h
   ·rename_i ie hie
    have hTe:=hT e ie hie
    cases hb:Nat.blt j len with
    |false=>rw[hb] at h;cases h
    |true=>
     rw[hb] at h
     have hb:j<len:=Nat.le_of_ble_eq_true hb
     obtain ⟨v,h3,h4⟩:=fh (w:=w) hT h hx
     refine ⟨v,?_,h4⟩
     simp[Instr.index,asIntOf,run_underlying hu,hb,hTe.sz,h3]
   ·cases h
  ·cases h
 ·cases h
end
set_option linter.defProp false
def q6:=@cN.put_same
def qi:=@dg.close
def qk:=@cN.le_put
end
end Go.Proofs.YtjpnhkmfhlnpcaaGreatDoor
