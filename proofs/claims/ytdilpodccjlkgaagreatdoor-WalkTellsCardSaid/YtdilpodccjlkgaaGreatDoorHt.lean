/- The document's typed; the laws' typed, single and plain. Of programs that are little. -/
import Derived.Test.YtdilpodccjlkgaaGreatDoorHs
set_option linter.unusedVariables false
set_option linter.unusedSimpArgs false
set_option linter.unusedSectionVars false
namespace Go.Proofs.YtdilpodccjlkgaaGreatDoor
open Go.Proofs.Tryz
open Go.Proofs Go.Lib Go.Shelf Go.RowKit
variable {E:World}
set_option maxRecDepth 20000
theorem fz (f:ad) (v:Int) (hv:aZ f v=true):aK prog E 123 [.agg (bD f),.int .i64 v] (.int .i64 (bp f v)):=by
 obtain ⟨x,hx,hv2,hk⟩:=iA hv
 rw[hk]
 refine zq func123 U (by decide) U<|ae<|y9 (cs:=_) U U U<|ap U<|z6<|ae<|ao jg U Y4 U U<|aI Yb U<|aa U<|za (bh v.toNat Z7 Y1 U U hv2 hx)<|ao Zi U Yq U U<|ay X4 U<|ap U<|z6<|zi<|zm (x:=.int _ _) U ?_
 rfl
theorem pF (c:Int):aK prog E 124 [.int .u8 c] (.int .i64 (ec c)):=by
 refine zq func124 U (by decide) U<|ae<|ap U<|z6<|zd<|ae<|aa U<|z6<|zj<|ae<|ai U U<|ab U<|z6<|zy U (fun c1=>?_) (fun c1=>?_)
 ·refine ae<|ap U<|z6<|zi<|zm (x:=.int _ _) U ?_
  unfold ec;simp_all
 ·refine ae<|ai U U<|ab U<|z6<|zy U (fun c2=>?_) (fun c2=>?_)
  ·refine ae<|ap U<|z6<|zi<|zm (x:=.int _ _) U ?_
   unfold ec;simp_all
  ·refine zg<|ae<|ap U<|z6<|zi<|zm (x:=.int _ _) U ?_
   unfold ec;simp_all
theorem Ab:∀j:Nat,j<27→decide ((cJ (j:Int)).1=⟨#[99,111,112,121]⟩)=decide (j=1):=by decide
theorem nX {op:Int} (h:0≤op∧op≤26):((cJ op).1=⟨#[99,111,112,121]⟩)↔op=1:=by
 have h1:=Ab op.toNat (by omega)
 rw[Int.toNat_of_nonneg h.1] at h1
 constructor
 ·intro e
  have:decide (op.toNat=1)=true:=by rw[←h1];exact qx e
  have:=w4 this
  omega
 ·intro e
  have h2:op.toNat=1:=by omega
  have:decide ((cJ op).1=⟨#[99,111,112,121]⟩)=true:=by rw[h1];exact qx h2
  exact w4 this
theorem uO {op:Int} (h:0≤op∧op≤26):gk[op.toNat]?=some (cJ op):=by
 unfold cJ
 have hl:op.toNat<gk.length:=by have:gk.length=27:=rfl;omega
 rw[if_pos h.1,qk hl];rfl
def gn (f:ad) (x:aF):List Int:=if x.op=1 then[bp f x.dst] else bH x.op
theorem Ac {f:ad} {x:aF} (h:dg f x):x.args.length=(gn f x).length:=by
 rw[h.len]
 unfold gn
 split
 ·rename_i e;rw[e];rfl
 ·rfl
theorem pH {f:ad} {x:aF} (h:dg f x):ft f x=(decide (x.args.map (bp f)=gn f x)&&(!dV x.op||(decide (x.op=1)||decide (bp f x.dst=iS x.op)))):=by
 unfold ft gn
 by_cases e:x.op=1
 ·have hl:=h.len
  rw[e,show (bH 1).length=1 from rfl] at hl
  obtain ⟨a,ha⟩:=List.length_eq_one_iff.1 hl
  rw[if_pos e,if_pos e,ha]
  simp[e]
  exact eq_comm
 ·rw[if_neg e,if_neg e];simp[e]
theorem wo {op:Int} {m:Nat} (h:m<(bH op).length):∃c:UInt8,(cJ op).2.1.data[m]?=some c∧(bH op)[m]=ec (c.toNat:Int):=by
 have h1:m<(cJ op).2.1.data.size:=by rw[mP] at h;exact h
 have e:(bH op)[m]?=((cJ op).2.1.data.toList[m]?).map fun b=>ec b.toNat:=by unfold bH;rw[qs]
 rw[qk h,Array.getElem?_toList,Array.getElem?_eq_getElem h1] at e
 exact ⟨(cJ op).2.1.data[m],by rw[Array.getElem?_eq_getElem h1],by simpa using e⟩
theorem wq {op:Int} (h:¬(cJ op).2.2=⟨#[]⟩):∃c:UInt8,(cJ op).2.2.data[0]?=some c∧iS op=ec (c.toNat:Int):=by
 unfold iS
 generalize (cJ op).2.2=m at h ⊢
 obtain ⟨⟨l⟩⟩:=m
 cases l with
 |nil=>exact absurd rfl h
 |cons c l=>exact ⟨c,by simp,rfl⟩
end Go.Proofs.YtdilpodccjlkgaaGreatDoor
namespace Go.Proofs.YtdilpodccjlkgaaGreatDoor
open Go.Proofs.Tryz
open Go.Proofs Go.Lib Go.Shelf Go.RowKit
variable {E:World}
set_option maxRecDepth 20000
theorem Cd {f:ad} {x:aF} {m:Nat} (e:x.op=1) (h:m<(gn f x).length):(gn f x)[m]=bp f x.dst:=by
 have h2:(gn f x)[m]?=some (bp f x.dst):=by
  unfold gn at h ⊢
  rw[if_pos e] at h ⊢
  simp at h
  subst h;rfl
 rw[qk h] at h2
 exact Option.some.inj h2
theorem Ce {f:ad} {x:aF} {m:Nat} (e:¬x.op=1) (h:m<(gn f x).length) (h':m<(bH x.op).length):(gn f x)[m]=(bH x.op)[m]:=by
 have h2:(gn f x)[m]?=some ((bH x.op)[m]):=by
  unfold gn
  rw[if_neg e,qk h']
 rw[qk h] at h2
 exact Option.some.inj h2
theorem Ad {f:ad} {t:fH} (h:bM f t=true):t.kind=0∨t.kind=1∨t.kind=2:=by
 unfold bM at h
 by_cases h0:t.kind=0
 ·exact .inl h0
 ·rw[if_neg h0] at h
  by_cases h1:t.kind=1
  ·exact .inr (.inl h1)
  ·rw[if_neg h1] at h
   by_cases h2:t.kind=2
   ·exact .inr (.inr h2)
   ·rw[if_neg h2] at h;cases h
set_option maxHeartbeats 8000000 in
theorem qH (f:ad) (hf:small f) (hS:b8 f):aK prog E 77 [.agg (bD f)] (.bool (f.blocks.all (ii f))):=by
 have hn:=hf.2.2.1
 refine zq func77 U (by decide) U<|ae<|y9 (cs:=_) U U U<|ab U<|z6<|zd<|ae<|ao jg U Z6 U U<|aI Zd U<|ar jk U<|aa U<|z6<|zj<|y8 (γ:=Nat) [1,16,17] (fun i=>[(18,.int .i64 i)]) (fun i=>[]) (fun i=>i≤f.blocks.length∧(f.blocks.take i).all (ii f)=true) (fun i=>f.blocks.length - i) 0 aH aD (⟨qn _,U⟩) ?_
 rintro i ⟨hi,hall⟩
 refine ae<|ax U U<|z6<|zd<|zu U (fun ci=>?_) (fun ci=>?_)
 ·have hi2:i<f.blocks.length:=by simp at ci;omega
  obtain ⟨b,hbi⟩:∃b,f.blocks[i]=b:=⟨_,rfl⟩
  have hget:f.blocks[i]?=some b:=by rw[qk hi2,hbi]
  have hmem:b∈f.blocks:=hbi▸qo hi2
  obtain ⟨hb0,hb1,hb2,hb3,hb4⟩:=hf.2.2.2.2 b hmem
  obtain ⟨hPh,hIn,hTm⟩:=hS.2.2.2.2.2 b hmem
  have hbad:ii f b=false→f.blocks.all (ii f)=false:=fun h=>Bool.eq_false_iff.2 (dh hi2 (by rw[hbi];exact h))
  refine zg<|zd<|zj<|ae<|za (bh i jk Z0 U U U hget)<|ac Yk Z0 U U<|y6 (cs:=[.str ⟨#[]⟩,.raw (.slice none 0 0),.raw (.slice none 0 0),.int .i64 0,.int .i64 0,.int .i64 0,.int .i64 0]) Zn U U<|fun i4=>y1 Z0 U U U U U U .head U<|zf (yf (t:=4) U .head)<|z6<|zd<|ae<|ao jj U Yg U U<|aI Ys U<|ar Z5 U<|aa U<|z6<|zj<|y8 (γ:=Nat) [1,4,16,17,18,23,24] (fun j=>[(25,.int .i64 j)]) (fun j=>[]) (fun j=>j≤b.phis.length∧(b.phis.take j).all (se f)=true) (fun j=>b.phis.length - j) 0 aH aD (⟨qn _,U⟩) ?_
  rintro j ⟨hj,hjall⟩
  refine ae<|ax U U<|z6<|zd<|zu U (fun cj=>?_) (fun cj=>?_)
  ·have hj2:j<b.phis.length:=by simp at cj;omega
   obtain ⟨p,hp⟩:∃p,b.phis[j]=p:=⟨_,rfl⟩
   have hpm:p∈b.phis:=hp▸qo hj2
   obtain ⟨hpd,hpl,hpn,hpa,hpf⟩:=hPh p hpm
   have hpb:=(hb3 p hpm).1
   refine zg<|zd<|zj<|ae<|za (bh j Z5 Zf U U U (by rw[qk hj2,hp])) ?_
   refine ac X0 Zf U U<|y6 (cs:=[.int .i64 0,.raw (.slice none 0 0),.raw (.slice none 0 0)]) Yc U U<|fun i6=>y1 Zf U U U U U U .head U<|zf (yf (t:=6) U .head)<|z6<|ae<|ao Z3 U j8 U U<|aI j9 U<|ar wz U<|aa U<|z6<|zj<|y8 (γ:=Nat) [1,4,6,16,17,18,23,24,25,30,31] (fun k=>[(32,.int .i64 k)]) (fun k=>[]) (fun k=>k≤p.args.length∧(p.args.take k).all (fun v=>decide (bp f v=bp f p.dst))=true) (fun k=>p.args.length - k) 0 aH aD (⟨qn _,U⟩) ?_
   rintro k ⟨hk,hkall⟩
   refine ae<|ax U U<|z6<|zd<|zu U (fun ck=>?_) (fun ck=>?_)
   ·have hk2:k<p.args.length:=by simp at ck;omega
    obtain ⟨v,hv⟩:∃v,p.args[k]=v:=⟨_,rfl⟩
    have hvv:=List.all_eq_true.1 hpa v (hv▸qo hk2)
    refine zg<|zd<|zj<|ae<|za (bh k wz j6 U U U (by rw[qk hk2,hv])) ?_
    refine ay j7 U<|ap U<|z6<|zd<|zw (fun j=>false) (by kernel_rfl) U (zh (.rest _))<|ak 0 U (yr ju jf U U)<|ak 1 U (dq U)<|ak 3 U (yr ju jf U U)<|ak 4 U (bx Z3 U j6 U U)<|ak 5 U (b7 j7 U)<|ba 2 U<|ze (fz f v hvv) U<|z6<|ba 6 U<|ze (fz f p.dst hpd) U<|z6<|ak 7 U (Gv.neqI U U)<|bY<|zy U (fun cq=>?_) (fun cq=>?_)
    ·have hq:¬bp f v=bp f p.dst:=by simpa using cq
     have hph:se f p=false:=by
      unfold se
      rw[show (p.args.any fun v=>!decide (bp f v=bp f p.dst))=true from List.any_eq_true.2 ⟨v,hv▸qo hk2,by simp[hq]⟩];rfl
     refine ae<|ab U<|z6<|zi<|zm (x:=.bool _) U ?_
     rw[hbad (by unfold ii;rw[show b.phis.all (se f)=false from Bool.eq_false_iff.2 (dh hj2 (by rw[hp];exact hph))];rfl)]
    ·have hq:bp f v=bp f p.dst:=by simpa using cq
     refine zg<|aO<|aC U U<|aa U<|z6 ?_
     exact ⟨k+1,⟨rfl,rfl,rfl,rfl,rfl,rfl,rfl,rfl,rfl,rfl,rfl,trivial⟩,aH,aD,⟨hk2,bN hk2 hkall (by rw[hv];simp[hq])⟩,by omega⟩
   ·have hkn:k=p.args.length:=by simp at ck;omega
    rw[hkn,qp] at hkall
    have hph:se f p=true:=by
     unfold se
     rw[show (p.args.any fun v=>!decide (bp f v=bp f p.dst))=false from List.any_eq_false.2 fun v hv=>by have:=List.all_eq_true.1 hkall v hv;simpa using this];rfl
    refine y7<|aO<|aC U U<|aa U<|z6 ?_
    exact ⟨j+1,lf,aH,aD,⟨hj2,bN hj2 hjall (by rw[hp];exact hph)⟩,by omega⟩
  ·have hjn:j=b.phis.length:=by simp at cj;omega
   subst hjn
   rw[qp] at hjall
   refine y7<|zd<|ae<|ao jj U Zo U U<|aI Zx U<|ar jz U<|aa U<|z6<|zj<|y8 (γ:=Nat) [1,4,16,17,18,47,48] (fun k=>[(49,.int .i64 k)]) (fun k=>[]) (fun k=>k≤b.insts.length∧(b.insts.take k).all (ft f)=true) (fun k=>b.insts.length - k) 0 aH aD (⟨qn _,U⟩) ?_
   rintro k ⟨hk,hkall⟩
   refine ae<|ax U U<|z6<|zd<|zu U (fun ck=>?_) (fun ck=>?_)
   ·have hk2:k<b.insts.length:=by simp at ck;omega
    obtain ⟨z,hz⟩:∃z,b.insts[k]=z:=⟨_,rfl⟩
    have hzm:z∈b.insts:=hz▸qo hk2
    have hI:=gp (hIn z hzm)
    have hzl:=hb4 z hzm
    have hwl:=Ac hI
    have hdst:dV z.op=true→aZ f z.dst=true:=fun h=>by
     rcases hI.dst with ⟨d1,_⟩|⟨_,_,d3⟩
     ·rw[h] at d1;cases d1
     ·exact d3
    have hcopy:z.op=1→dV z.op=true:=fun h=>by rw[h];rfl
    have hib:ft f z=false→f.blocks.all (ii f)=false:=fun h=>hbad (by unfold ii;rw[hjall,show b.insts.all (ft f)=false from Bool.eq_false_iff.2 (dh hk2 (by rw[hz];exact h))];rfl)
    refine zg<|zd<|zj<|ae<|za (bh k jz jv U U U (by rw[qk hk2,hz])) ?_
    refine ac Zk jv U U<|y6 (cs:=[.int .i64 0,.int .i64 0,.raw (.slice none 0 0),.int .i64 0]) Z4 U U<|fun i10=>y1 jv U U U U U U .head U<|zf (yf (t:=10) U .head)<|z6<|zd<|ya (γ:=Nat) [1,4,10,16,17,18,47,48,49] (fun g=>[(11,.po g 0)]) (fun g=>[(g,.cells 154 (p9 (cJ z.op)))]) (fun g=>True) ?_ (fun _ _ h=>h) ?_
    ·refine zw (fun j=>false) (by kernel_rfl) U (zh (.rest _))<|ak 1 U (bx j5 U jy U U)<|ak 2 U (b7 Z2 U)<|yq (i:=0) (j:=5) U U (by kernel_rfl) ?_ ?_
     ·refine ze (kV) U<|z6<|ak 3 U (bh z.op.toNat underlying155 Yj U U (by have:=hI.op;omega) (uO hI.op))<|ak 4 U (yr isAgg154 Yj U U)<|ba 5 U<|y6 (cs:=[.str ⟨#[]⟩,.str ⟨#[]⟩,.str ⟨#[]⟩]) X9 U U<|fun i11=>z6<|ba 6 U<|y1 Yj U U U U U U .head U<|z6<|bY ?_
      exact ⟨i11,n8,aH,aD,trivial⟩
     ·refine y6 (cs:=[.str ⟨#[]⟩,.str ⟨#[]⟩,.str ⟨#[]⟩]) X9 U U<|fun i11=>z6<|ba 0 U<|ze (kV) U<|z6<|ak 3 U (bh z.op.toNat underlying155 Yj U U (by have:=hI.op;omega) (uO hI.op))<|ak 4 U (yr isAgg154 Yj U U)<|ba 6 U<|y1 Yj U U U U U U .head U<|z6<|bY ?_
      exact ⟨i11,n8,aH,aD,trivial⟩
    ·rintro i11 _
     refine zd<|ae<|ao j5 U j8 U U<|aI j9 U<|ar wz U<|aa U<|z6<|zj<|y8 (γ:=Nat) [1,4,10,11,16,17,18,47,48,49,60] (fun m=>[(61,.int .i64 m)]) (fun m=>[(i11,.cells 154 (p9 (cJ z.op)))]) (fun m=>m≤z.args.length∧(z.args.take m).map (bp f)=(gn f z).take m) (fun m=>z.args.length - m) 0 aH aD (⟨qn _,by simp⟩) ?_
     rintro m ⟨hm,hmall⟩
     refine ae<|ax U U<|z6<|zd<|zu U (fun cm=>?_) (fun cm=>?_)
     ·have hm2:m<z.args.length:=by simp at cm;omega
      have hmw:m<(gn f z).length:=by omega
      have hmt:m<(bH z.op).length:=by have:=hI.len;omega
      obtain ⟨v,hv⟩:∃v,z.args[m]=v:=⟨_,rfl⟩
      have hvv:=hI.args v (hv▸qo hm2)
      obtain ⟨c,hc,hct⟩:=wo hmt
      have hbadm:¬bp f v=(gn f z)[m]→f.blocks.all (ii f)=false:=fun h=>hib (by rw[pH hI,qy (A4 hm2 hmw (by rw[hv];exact h))];rfl)
      refine zg<|zd<|zj<|ae<|aa U<|ap U<|z6<|ae<|za (zn Y2 U Y3 (by decide) U U)<|za (zt (c:=.str _) Y9 U ⟨_,.head⟩ U)<|aa U<|za (Gv.indexT (j:=m) Zr U U U hc)<|ze (pF (c.toNat:Int)) U<|ap U<|z6<|zd<|ae<|za (zn Y2 U Y3 (by decide) U U)<|za (zt (c:=.str _) Y9 U ⟨_,.head⟩ U)<|za (Gv.eqlT U U)<|z6<|zy U (fun cw=>?_) (fun cw=>?_)
      ·have ew:z.op=1:=(nX hI.op).1 (by simpa using cw)
       refine aO<|ac ju jf U U<|ao j5 U j6 U U<|ay j7 U<|ze (fz f z.dst (hdst (hcopy ew))) U<|ap U<|z6<|zd<|zw (fun j=>false) (by kernel_rfl) U (zh (.rest _))<|ak 0 U (yr ju jf U U)<|ak 1 U (bx j5 U j8 U U)<|ak 2 U (dx j9 U)<|ak 3 U (dq U)<|ak 4 U (bh m wz j6 U U U (by rw[qk hm2,hv])) ?_
       refine ak 5 U (b7 j7 U)<|ak 7 U (dq U)<|ba 6 U<|ze (fz f v hvv) U<|z6<|ak 8 U (Gv.neqI U U)<|bY<|zy U (fun cq=>?_) (fun cq=>?_)
       ·have hq:¬bp f v=bp f z.dst:=by simpa using cq
        refine ae<|ab U<|z6<|zi<|zm (x:=.bool _) U ?_
        rw[hbadm (by rw[Cd ew hmw];exact hq)]
       ·have hq:bp f v=bp f z.dst:=by simpa using cq
        refine zg<|aO<|aC U U<|aa U<|z6 ?_
        exact ⟨m+1,⟨rfl,rfl,rfl,rfl,rfl,rfl,rfl,rfl,rfl,rfl,rfl,trivial⟩,aH,aD,⟨hm2,ic hm2 hmw hmall (by rw[hv,Cd ew hmw];exact hq)⟩,by omega⟩
      ·have ew:¬z.op=1:=fun e=>by have:=(nX hI.op).2 e;simp[this] at cw
       refine zg<|zd<|zw (fun j=>false) (by kernel_rfl) U (zh (.rest _))<|ak 0 U (yr ju jf U U)<|ak 1 U (bx j5 U j8 U U)<|ak 2 U (dx j9 U)<|ak 3 U (dq U)<|ak 4 U (bh m wz j6 U U U (by rw[qk hm2,hv])) ?_
       refine ak 5 U (b7 j7 U)<|ak 7 U (dq U)<|ba 6 U<|ze (fz f v hvv) U<|z6<|ak 8 U (Gv.neqI U U)<|bY<|zy U (fun cq=>?_) (fun cq=>?_)
       ·have hq:¬bp f v=ec (c.toNat:Int):=by simpa using cq
        refine ae<|ab U<|z6<|zi<|zm (x:=.bool _) U ?_
        rw[hbadm (by rw[Ce ew hmw hmt,hct];exact hq)]
       ·have hq:bp f v=ec (c.toNat:Int):=by simpa using cq
        refine zg<|aO<|aC U U<|aa U<|z6 ?_
        exact ⟨m+1,⟨rfl,rfl,rfl,rfl,rfl,rfl,rfl,rfl,rfl,rfl,rfl,trivial⟩,aH,aD,⟨hm2,ic hm2 hmw hmall (by rw[hv,Ce ew hmw hmt,hct];exact hq)⟩,by omega⟩
     ·have hmn:m=z.args.length:=by simp at cm;omega
      have hall2:z.args.map (bp f)=gn f z:=by rw[hmn,qp,hwl,qp] at hmall;exact hmall
      have hiw:=pH hI
      rw[qx hall2,Bool.true_and] at hiw
      refine y7<|zd<|zw (fun j=>false) (by kernel_rfl) U (zh (.r (.rest _)))<|ak 0 U (zn Y2 U Y3 (by decide) U U)<|ak 1 U (zt (c:=.str _) Y9 U ⟨_,.head⟩ U)<|ak 2 U (Gv.neqT U U)<|ak 3 U (l6 U)<|qe (s:=89) U (fun c1=>?_) (fun c1=>?_)
      ·have d1:¬(cJ z.op).2.2=⟨#[]⟩:=by simpa using c1
       have dm:dV z.op=true:=by rw[kW,qy d1];rfl
       obtain ⟨c,hc,hct⟩:=wq d1
       refine cR 4 U U U c1 (zn Y2 U Y3 (by decide) U U)<|cR 5 U U U c1 (zt (c:=.str _) Y9 U ⟨_,.head⟩ U)<|cR 6 U U U c1 (Gv.neqT U U)<|ak 7 U (ta U c1 U)<|ak 8 U (l6 U)<|qe (s:=94) U (fun c2=>?_) (fun c2=>?_)
       ·have ew:¬z.op=1:=fun e=>by have:=(nX hI.op).2 e;simp[this] at c2
        refine cR 9 U U U c2 (yr ju jf U U)<|cR 10 U U U c2 (bx j5 U j6 U U)<|cR 11 U U U c2 (b7 j7 U)<|cR 13 U U U c2 (zn Y2 U Y3 (by decide) U U)<|cR 14 U U U c2 (zt (c:=.str _) Y9 U ⟨_,.head⟩ U)<|cR 15 U U U c2 (Gv.indexT (j:=0) Zr U U U hc)<|ba 12 U<|z8 U U c2<|ze (fz f z.dst (hdst dm)) U<|z6<|ba 16 U<|z8 U U c2<|ze (pF (c.toNat:Int)) U<|z6<|cR 17 U U U c2 (Gv.neqI U U)<|ak 18 U (ta U c2 U)<|bY<|zy U (fun cq=>?_) (fun cq=>?_)
        ·have hq:¬bp f z.dst=ec (c.toNat:Int):=by simpa using cq
         refine ae<|ab U<|z6<|zi<|zm (x:=.bool _) U ?_
         rw[hib (by rw[hiw,dm,qy ew,hct,qy hq];rfl)]
        ·have hq:bp f z.dst=ec (c.toNat:Int):=by simpa using cq
         refine zg<|aO<|aC U U<|aa U<|z6 ?_
         exact ⟨k+1,lf,aH,⟨_,(.drop (.refl _)),rfl⟩,⟨hk2,bN hk2 hkall (by rw[hz,hiw,hct,qx hq];simp)⟩,by omega⟩
       ·have ew:z.op=1:=(nX hI.op).1 (by simpa using c2)
        refine b9 9 U U U c2<|b9 10 U U U c2<|b9 11 U U U c2<|b9 12 U U U c2<|b9 13 U U U c2<|b9 14 U U U c2<|b9 15 U U U c2<|b9 16 U U U c2<|b9 17 U U U c2<|ak 18 U (qU U c2 U)<|bY<|yg U U<|zg<|aO<|aC U U<|aa U<|z6 ?_
        exact ⟨k+1,lf,aH,⟨_,(.drop (.refl _)),rfl⟩,⟨hk2,bN hk2 hkall (by rw[hz,hiw,qx ew];simp)⟩,by omega⟩
      ·have d1:(cJ z.op).2.2=⟨#[]⟩:=by simpa using c1
       have dm:dV z.op=false:=by rw[kW,qx d1];rfl
       refine b9 4 U U U c1<|b9 5 U U U c1<|b9 6 U U U c1<|ak 7 U (qU U c1 U)<|ak 8 U (l6 U)<|b9 9 U U U U<|b9 10 U U U U<|b9 11 U U U U<|b9 12 U U U U<|b9 13 U U U U<|b9 14 U U U U<|b9 15 U U U U<|b9 16 U U U U<|b9 17 U U U U<|ak 18 U (qU U U U)<|bY<|yg U U<|zg<|aO<|aC U U<|aa U<|z6 ?_
       exact ⟨k+1,lf,aH,⟨_,(.drop (.refl _)),rfl⟩,⟨hk2,bN hk2 hkall (by rw[hz,hiw,dm];rfl)⟩,by omega⟩
   ·have hkn:k=b.insts.length:=by simp at ck;omega
    rw[hkn,qp] at hkall
    refine y7<|ae<|ao jj U Zm U U<|ac isAgg49 Zm U U<|y6 (cs:=[.int .i64 0,.int .i64 0,.int .i64 0,.int .i64 0]) zeroValue49 U U<|fun i14=>y1 Zm U U U U U U .head U<|zf (yf (t:=14) U .head)<|z6<|zd<|ya (γ:=Bool) [1,16,17,18] (fun u=>[(152,.bool u)]) (fun u=>[]) (fun u=>u=!d4 f b.term) ?_ (fun _ _ h=>h) ?_
    ·have hk3:=Ad hTm
     refine aO<|ao jh U Zz U U<|ay Y8 U<|ai U U<|aj U<|zo (s:=111) U (fun c1=>?_) (fun c1=>?_)
     ·refine z8 U U c1<|ac ju jf U U<|z8 U U c1<|ao jh U j6 U U<|z8 U U c1<|ay j7 U<|z8 U U c1<|ze (fz f b.term.var (iD hTm (by simp_all))) U<|z8 U U c1<|aM U U<|aq U c1 U<|aj U<|zo (s:=118) U (fun c2=>?_) (fun c2=>?_)
      ·refine z7 U U c2<|z7 U U c2<|z7 U U c2<|z7 U U c2<|zk U U<|zk U U<|zk U U<|zk U U<|zk U U<|zk U U<|zk U U<|zk U U<|zk U U<|zk U U<|zk U U<|zk U U<|zk U U<|zk U U<|zk U U<|zk U U<|zk U U<|z7 U U c2<|aq U c2 U<|aj U<|z7 U U U<|z7 U U U<|z7 U U U<|z7 U U U<|zk U U<|zk U U<|zk U U<|zk U U<|z7 U U U<|aq U U U<|z6 ?_
       exact ⟨_,fl,aH,aD,by simp_all[d4]<;>omega⟩
      ·refine z8 U U c2<|ao jh U Zz U U<|z8 U U c2<|ay Y8 U<|z8 U U c2<|ai U U<|z8 U U c2<|aj U<|zo (s:=122) U (fun c3=>?_) (fun c3=>?_)
       ·refine z8 U U c3<|ac ju jf U U<|z8 U U c3<|ao jh U j6 U U<|z8 U U c3<|ay j7 U<|z8 U U c3<|ze (fz f b.term.var (iD hTm (by simp_all))) U<|z8 U U c3<|aM U U<|z8 U U c3<|aj U<|zo (s:=128) U (fun c4=>?_) (fun c4=>?_)
        ·refine z7 U U c4<|z7 U U c4<|z7 U U c4<|z7 U U c4<|z8 U U c3<|aq U c4 U<|z8 U U c3<|aj U<|z7 U U U<|z7 U U U<|z7 U U U<|z7 U U U<|z8 U U c3<|aq U U U<|z8 U U c2<|aq U c3 U<|au U c2 U<|aj U<|z7 U U U<|z7 U U U<|z7 U U U<|z7 U U U<|zk U U<|zk U U<|zk U U<|zk U U<|z7 U U U<|aq U U U<|z6 ?_
         exact ⟨_,fl,aH,aD,by simp_all[d4]<;>omega⟩
        ·refine z8 U U c4<|ao jh U Ze U U<|z8 U U c4<|za (yv (j:=0) Z1 j6 U U U (by decide) U)<|z8 U U c4<|ay j7 U<|z8 U U c4<|ai U U<|z8 U U c3<|au U c4 U<|z8 U U c3<|aj U<|zo (s:=134) U (fun c5=>?_) (fun c5=>?_)
         ·refine z7 U U c5<|z7 U U c5<|z7 U U c5<|z7 U U c5<|z8 U U c3<|aq U c5 U<|z8 U U c2<|aq U c3 U<|au U c2 U<|aj U<|z7 U U U<|z7 U U U<|z7 U U U<|z7 U U U<|zk U U<|zk U U<|zk U U<|zk U U<|z7 U U U<|aq U U U<|z6 ?_
          exact ⟨_,fl,aH,aD,by simp_all[d4]<;>omega⟩
         ·refine z8 U U c5<|ao jh U Ze U U<|z8 U U c5<|za (yv (j:=1) Z1 j6 U U U (by decide) U)<|z8 U U c5<|ay j7 U<|z8 U U c5<|ai U U<|z8 U U c3<|au U c5 U<|z8 U U c2<|aq U c3 U<|au U c2 U<|aj U<|zo (s:=142) U (fun c6=>?_) (fun c6=>?_)
          ·refine z7 U U c6<|z7 U U c6<|z7 U U c6<|z7 U U c6<|zk U U<|zk U U<|zk U U<|zk U U<|z7 U U c6<|aq U c6 U<|z6 ?_
           exact ⟨_,fl,aH,aD,by simp_all[d4]<;>omega⟩
          ·refine z8 U U c6<|ao jh U Zz U U<|z8 U U c6<|ay Y8 U<|z8 U U c6<|ai U U<|z8 U U c6<|aj U<|zo (s:=146) U (fun c7=>?_) (fun c7=>?_)
           ·refine z8 U U c7<|ao jh U Ze U U<|z8 U U c7<|za (yv (j:=0) Z1 j6 U U U (by decide) U)<|z8 U U c7<|ay j7 U<|z8 U U c7<|ai U U<|z8 U U c6<|aq U c7 U<|au U c6 U<|z6 ?_
            exact ⟨_,fl,aH,aD,by simp_all[d4]<;>omega⟩
           ·refine z7 U U c7<|z7 U U c7<|z7 U U c7<|z7 U U c7<|z8 U U c6<|au U c7 U<|au U c6 U<|z6 ?_
            exact ⟨_,fl,aH,aD,by simp_all[d4]<;>omega⟩
       ·refine z7 U U c3<|z7 U U c3<|z7 U U c3<|z7 U U c3<|z7 U U c3<|z7 U U c3<|zk U U<|zk U U<|zk U U<|zk U U<|z7 U U c3<|z7 U U c3<|zk U U<|zk U U<|zk U U<|zk U U<|z7 U U c3<|z8 U U c2<|au U c3 U<|au U c2 U<|aj U<|z8 U U U<|ao jh U Zz U U<|z8 U U U<|ay Y8 U<|z8 U U U<|ai U U<|z8 U U U<|aj U<|zo (s:=146) U (fun c8=>?_) (fun c8=>?_)
        ·refine z8 U U c8<|ao jh U Ze U U<|z8 U U c8<|za (yv (j:=0) Z1 j6 U U U (by decide) U)<|z8 U U c8<|ay j7 U<|z8 U U c8<|ai U U<|z8 U U U<|aq U c8 U<|au U U U<|z6 ?_
         exact ⟨_,fl,aH,aD,by simp_all[d4]<;>omega⟩
        ·refine z7 U U c8<|z7 U U c8<|z7 U U c8<|z7 U U c8<|z8 U U U<|au U c8 U<|au U U U<|z6 ?_
         exact ⟨_,fl,aH,aD,by simp_all[d4]<;>omega⟩
     ·refine z7 U U c1<|z7 U U c1<|z7 U U c1<|z7 U U c1<|z7 U U c1<|au U c1 U<|aj U<|z8 U U U<|ao jh U Zz U U<|z8 U U U<|ay Y8 U<|z8 U U U<|ai U U<|z8 U U U<|aj U<|zo (s:=122) U (fun c9=>?_) (fun c9=>?_)
      ·refine z8 U U c9<|ac ju jf U U<|z8 U U c9<|ao jh U j6 U U<|z8 U U c9<|ay j7 U<|z8 U U c9<|ze (fz f b.term.var (iD hTm (by simp_all))) U<|z8 U U c9<|aM U U<|z8 U U c9<|aj U<|zo (s:=128) U (fun c10=>?_) (fun c10=>?_)
       ·refine z7 U U c10<|z7 U U c10<|z7 U U c10<|z7 U U c10<|z8 U U c9<|aq U c10 U<|z8 U U c9<|aj U<|z7 U U U<|z7 U U U<|z7 U U U<|z7 U U U<|z8 U U c9<|aq U U U<|z8 U U U<|aq U c9 U<|au U U U<|aj U<|z7 U U U<|z7 U U U<|z7 U U U<|z7 U U U<|zk U U<|zk U U<|zk U U<|zk U U<|z7 U U U<|aq U U U<|z6 ?_
        exact ⟨_,fl,aH,aD,by simp_all[d4]<;>omega⟩
       ·refine z8 U U c10<|ao jh U Ze U U<|z8 U U c10<|za (yv (j:=0) Z1 j6 U U U (by decide) U)<|z8 U U c10<|ay j7 U<|z8 U U c10<|ai U U<|z8 U U c9<|au U c10 U<|z8 U U c9<|aj U<|zo (s:=134) U (fun c11=>?_) (fun c11=>?_)
        ·refine z7 U U c11<|z7 U U c11<|z7 U U c11<|z7 U U c11<|z8 U U c9<|aq U c11 U<|z8 U U U<|aq U c9 U<|au U U U<|aj U<|z7 U U U<|z7 U U U<|z7 U U U<|z7 U U U<|zk U U<|zk U U<|zk U U<|zk U U<|z7 U U U<|aq U U U<|z6 ?_
         exact ⟨_,fl,aH,aD,by simp_all[d4]<;>omega⟩
        ·refine z8 U U c11<|ao jh U Ze U U<|z8 U U c11<|za (yv (j:=1) Z1 j6 U U U (by decide) U)<|z8 U U c11<|ay j7 U<|z8 U U c11<|ai U U<|z8 U U c9<|au U c11 U<|z8 U U U<|aq U c9 U<|au U U U<|aj U<|zo (s:=142) U (fun c12=>?_) (fun c12=>?_)
         ·refine z7 U U c12<|z7 U U c12<|z7 U U c12<|z7 U U c12<|zk U U<|zk U U<|zk U U<|zk U U<|z7 U U c12<|aq U c12 U<|z6 ?_
          exact ⟨_,fl,aH,aD,by simp_all[d4]<;>omega⟩
         ·refine z8 U U c12<|ao jh U Zz U U<|z8 U U c12<|ay Y8 U<|z8 U U c12<|ai U U<|z8 U U c12<|aj U<|zo (s:=146) U (fun c13=>?_) (fun c13=>?_)
          ·refine z8 U U c13<|ao jh U Ze U U<|z8 U U c13<|za (yv (j:=0) Z1 j6 U U U (by decide) U)<|z8 U U c13<|ay j7 U<|z8 U U c13<|ai U U<|z8 U U c12<|aq U c13 U<|au U c12 U<|z6 ?_
           exact ⟨_,fl,aH,aD,by simp_all[d4]<;>omega⟩
          ·refine z7 U U c13<|z7 U U c13<|z7 U U c13<|z7 U U c13<|z8 U U c12<|au U c13 U<|au U c12 U<|z6 ?_
           exact ⟨_,fl,aH,aD,by simp_all[d4]<;>omega⟩
      ·refine z7 U U c9<|z7 U U c9<|z7 U U c9<|z7 U U c9<|z7 U U c9<|z7 U U c9<|zk U U<|zk U U<|zk U U<|zk U U<|z7 U U c9<|z7 U U c9<|zk U U<|zk U U<|zk U U<|zk U U<|z7 U U c9<|z8 U U U<|au U c9 U<|au U U U<|aj U<|z8 U U U<|ao jh U Zz U U<|z8 U U U<|ay Y8 U<|z8 U U U<|ai U U<|z8 U U U<|aj U<|zo (s:=146) U (fun c14=>?_) (fun c14=>?_)
       ·refine z8 U U c14<|ao jh U Ze U U<|z8 U U c14<|za (yv (j:=0) Z1 j6 U U U (by decide) U)<|z8 U U c14<|ay j7 U<|z8 U U c14<|ai U U<|z8 U U U<|aq U c14 U<|au U U U<|z6 ?_
        exact ⟨_,fl,aH,aD,by simp_all[d4]<;>omega⟩
       ·refine z7 U U c14<|z7 U U c14<|z7 U U c14<|z7 U U c14<|z8 U U U<|au U c14 U<|au U U U<|z6 ?_
        exact ⟨_,fl,aH,aD,by simp_all[d4]<;>omega⟩
    ·rintro u hu
     subst hu
     refine zy U (fun ct=>?_) (fun ct=>?_)
     ·have dt:d4 f b.term=false:=by simpa using ct
      refine ae<|ab U<|z6<|zi<|zm (x:=.bool _) U ?_
      rw[hbad (by unfold ii;rw[hjall,hkall,dt];rfl)]
     ·have dt:d4 f b.term=true:=by simpa using ct
      refine zg<|aO<|aC U U<|aa U<|z6 ?_
      exact ⟨i+1,de,aH,aD,⟨hi2,bN hi2 hall (by rw[hbi];unfold ii;rw[hjall,hkall,dt];rfl)⟩,by omega⟩
 ·have hin:i=f.blocks.length:=by simp at ci;omega
  rw[hin,qp] at hall
  refine y7<|ae<|ab U<|z6<|zi<|zm (x:=.bool _) U ?_
  rw[hall]
end Go.Proofs.YtdilpodccjlkgaaGreatDoor
