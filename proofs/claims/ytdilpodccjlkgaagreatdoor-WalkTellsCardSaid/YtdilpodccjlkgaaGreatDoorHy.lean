/- The document's table of blocks. Of programs whose ends are blocks. -/
import Derived.Test.YtdilpodccjlkgaaGreatDoorHq
import Derived.Test.YtdilpodccjlkgaaGreatDoorHw
import Derived.Test.YtdilpodccjlkgaaGreatDoorHc
import Derived.Test.YtdilpodccjlkgaaGreatDoorHr
import Derived.Test.YtdilpodccjlkgaaGreatDoorHs
import Derived.Test.YtdilpodccjlkgaaGreatDoorHx
import Derived.Test.YtdilpodccjlkgaaGreatDoorHm
set_option linter.unusedVariables false
set_option linter.unusedSimpArgs false
set_option linter.unusedSectionVars false
namespace Go.Proofs.YtdilpodccjlkgaaGreatDoor
open Go.Proofs.Tryz
open Go.Proofs Go.Lib Go.Shelf Go.RowKit
theorem rM:cX prog 117 #[(0,1),(1,1),(2,1)] [.int .i64 0,.int .i64 0,.int .i64 0]:=⟨_,_,Zw,zeroValue117,fun w=>by kernel_rfl,rfl⟩
theorem DW:cU prog 114 117 1 3 [.int .i64 0,.int .i64 0,.int .i64 0]:=⟨_,underlying114,Yx,zeroValue117,by decide,by decide,by kernel_rfl⟩
variable {E:World}
set_option maxRecDepth 20000
def jJ (k:fk):Int:=2*k.1+if k.2=true then 1 else 0
theorem Cq {a b:fk} (h:jJ a=jJ b):a=b:=by
 obtain ⟨a1,a2⟩:=a
 obtain ⟨b1,b2⟩:=b
 unfold jJ at h
 cases a2<;>cases b2<;>simp at h
 ·rw[show a1=b1 by omega]
 ·omega
 ·omega
 ·rw[show a1=b1 by omega]
def Cr (iq js jo:Nat) (q:gq):OL:=[(iq,.cells 196 [.own js q.seen.length,.own jo q.out.length]),(js,.grow 1 3 (cI (q.seen.map jJ))),(jo,.grow 3 117 (q.out.map ee).flatten)]
def Fk (E:World) (f:ad) (iq:Nat) (n:Nat):Prop:=∀(q:gq) (js jo:Nat) (c:Int) (is:Bool),aZ f c=true→mC f c<n→kF f q →
 aR prog E 125 [.po iq 0,.agg (bD f),.int .i64 c,.bool is] (Cr iq js jo q) (fun y O=>∃g:Nat × Nat,y=.tup []∧O=Cr iq g.1 g.2 (fv f n q c is)∧True)
theorem kF.slen {f:ad} {q:gq} (h:kF f q):q.seen.length≤2*f.vars.length:=by
 have:=(kF.mk (f:=f) (q:=⟨q.seen,List.replicate q.seen.length ⟨0,0,0⟩⟩) h.nod h.rng (by simp)).len
 simpa using this
def GE (q:gq) (r:v2):gq:=if 0≤r.n then dS q r.a r.b r.n else q
set_option maxHeartbeats 16000000 in
theorem Ai (f:ad) (hf:small f) (hR:bE f) (hv:f.vars.length≤1000) (iq n:Nat) (ih:Fk E f iq n):Fk E f iq (n+1):=by
 intro q js jo c is hc hrk hA
 have hsl:=hA.slen
 have hol:=hA.len
 have hcr:0≤c∧c<f.vars.length:=by simpa [aZ] using hc
 obtain ⟨c0,hc0⟩:=Int.eq_ofNat_of_zero_le hcr.1
 refine yu (γ:=Nat × Nat) (x:=fun _=>.tup []) (M:=fun g=>Cr iq g.1 g.2 (fv f (n+1) q c is)) (p:=fun _=>True) ?_
 have hM:=fun h=>kH (E:=E) f hf c0 h
 have hM2:=fun y h=>kI (E:=E) f hf c0 (x:=y) h
 rw[←hc0] at hM hM2
 have ih:=fun q js jo c is h1 h2 h3=>ih q js jo c is h1 h2 h3
 have hki:∀s:fk,jJ s=jJ (c,is)→s=(c,is):=fun s h=>Cq h
 unfold Cr at ih ⊢
 refine zq func125 U (by decide) U<|ae<|y9 (cs:=_) U U U<|z6<|ae<|aa U<|za (Gv.mul U U (by unfold lj;omega))<|ap U<|z6<|zd<|ae<|aj U<|z6<|ya (γ:=Int) [0,2,3,5] (fun key=>[(8,.int .i64 key)]) (fun key=>[(iq,.cells 196 [.own js q.seen.length,.own jo q.out.length]),(js,.grow 1 3 (cI (q.seen.map jJ))),(jo,.grow 3 117 (q.out.map ee).flatten)]) (fun key=>key=jJ (c,is)) ?_ (fun _ _ h=>h) ?_
 ·refine zy U (fun ci=>?_) (fun ci=>?_)
  ·have ci:is=true:=ci
   refine aO<|aa U<|aC U U<|ap U<|z6 ?_
   exact ⟨_,(by repeat (first|with_reducible exact zp _ _|refine zz rfl ?_|exact fl)),aH,aD,by unfold jJ;rw[ci];simp⟩
  ·have ci:is=false:=ci
   refine zg ?_
   exact ⟨_,(by repeat (first|with_reducible exact zp _ _|refine zz rfl ?_|exact fl)),aH,aD,by unfold jJ;rw[ci];simp⟩
 ·rintro key hkey
  refine zd<|ae<|aE U<|aw U<|za (zn Yy U j8 (by decide) U U)<|za (zt (c:=.own _ _) j9 U ⟨_,.head⟩ U)<|za (Gv.lenO wz U)<|aa U<|z6<|zj<|y8 (γ:=Nat) [0,2,3,5,8,21,22] (fun k=>[(23,.int .i64 k)]) (fun k=>[(iq,.cells 196 [.own js q.seen.length,.own jo q.out.length]),(js,.grow 1 3 (cI (q.seen.map jJ))),(jo,.grow 3 117 (q.out.map ee).flatten)]) (fun k=>k≤q.seen.length∧(q.seen.take k).any (fun s=>decide (jJ s=key))=false) (fun k=>q.seen.length - k) 0 aH aD (⟨qn _,U⟩) ?_
  rintro k ⟨hk,hall⟩
  refine ae<|ax U U<|z6<|zd<|zu U (fun ck=>?_) (fun ck=>?_)
  ·have hk2:k<q.seen.length:=by omega
   obtain ⟨s,hs⟩:∃s,q.seen[k]=s:=⟨_,rfl⟩
   have hsg:q.seen[k]?=some s:=by rw[qk hk2,hs]
   have hsu:(q.seen.take (k+1)).any (fun s=>decide (jJ s=key))=decide (jJ s=key):=by
    rw[List.take_add_one,hsg,List.any_append,hall];simp
   refine zg<|zd<|zj<|ae<|za (yp (j:=k) wz j6 U U U ⟨_,.t1⟩ (by rw[aQ,qr]) hk2)<|za (q3 (j:=k) j7 U ⟨_,.t1⟩ (show (q.seen.map jJ)[k]?=some (jJ s) by rw[qs,hsg];rfl))<|ap U<|z6<|ae<|aa U<|aa U<|ai U U<|z6<|zu U (fun cc=>?_) (fun cc=>?_)
   ·have hmem:q.seen.contains (c,is)=true:=by
     rw[List.contains_iff_mem,←hki s (cc.trans hkey)]
     exact qu hsg
    have hQ:fv f (n+1) q c is=q:=by unfold fv;rw[if_pos hmem]
    refine zi<|yh ?_
    exact ⟨(js,jo),rfl,⟨_,.refl _,by rw[hQ]⟩,trivial⟩
   ·refine zg<|aO<|aC U U<|aa U<|z6 ?_
    exact ⟨k+1,lf,aH,aD,⟨hk2,by rw[hsu];exact qy cc⟩,by omega⟩
  ·obtain rfl:k=q.seen.length:=by omega
   have hnm:q.seen.contains (c,is)=false:=by
    cases e:q.seen.contains (c,is) with
    |false=>rfl
    |true=>
     rw[qp] at hall
     have:=List.any_eq_false.1 hall _ (List.contains_iff_mem.1 e)
     simp[hkey] at this
   have hQ:fv f (n+1) q c is=match b4 f c with
     |none=>⟨q.seen++[(c,is)],q.out⟩
     |some x=>
      if x.op=10 then fv f n ⟨q.seen++[(c,is)],q.out⟩ (bc x) (!is)
      else if x.op=1 then fv f n ⟨q.seen++[(c,is)],q.out⟩ (bc x) is
      else if x.op=11 then (if is=true then fv f n (fv f n ⟨q.seen++[(c,is)],q.out⟩ (bc x) true) (bC x) true else ⟨q.seen++[(c,is)],q.out⟩)
      else if x.op=8 then (if is=true then dS ⟨q.seen++[(c,is)],q.out⟩ (bc x) (bC x) 0 else dS ⟨q.seen++[(c,is)],q.out⟩ (bC x) (bc x) 1)
      else if x.op=9 then (if is=true then dS ⟨q.seen++[(c,is)],q.out⟩ (bc x) (bC x) 1 else dS ⟨q.seen++[(c,is)],q.out⟩ (bC x) (bc x) 0)
      else if x.op=7 then (if is=true then dS ⟨q.seen++[(c,is)],q.out⟩ (bc x) (bC x) 2 else ⟨q.seen++[(c,is)],q.out⟩)
      else ⟨q.seen++[(c,is)],q.out⟩:=by
    conv=>lhs;unfold fv
    rw[if_neg (by rw[hnm];decide)]
    rfl
   have hQG:=lp hR (n+1) q c is hA hc
   obtain ⟨Z,hZ⟩:∃Z,fv f (n+1) q c is=Z:=⟨_,rfl⟩
   rw[hZ] at hQ hQG ⊢
   obtain ⟨hA1,hA2⟩:=hA.push hnm hc
   obtain ⟨q1,hq1⟩:∃q1:gq,(⟨q.seen++[(c,is)],q.out⟩:gq)=q1:=⟨_,rfl⟩
   rw[hq1] at hQ hA1
   rw[hq1] at hA2
   have hqs:q1.seen=q.seen++[(c,is)]:=by rw[←hq1]
   have hqo:q1.out=q.out:=by rw[←hq1]
   refine y7<|ae<|aE U<|aE U<|aw U<|za (zn Yy U j8 (by decide) U U)<|za (zt (c:=.own _ _) j9 U ⟨_,.head⟩ U)<|aa U<|y4 (rows:=[[_]]) cC U U U U U<|yj (k:=1) wz X8 U U U U U (fun _=>.t1) (by rw[aQ,qr];omega) (by decide) U (by show (_+_)*8≤_;simp<;>omega) (by simp<;>omega)<|fun i38=>aw U<|za (zn Yy U j8 (by decide) U U)<|yw (l:=[_]) (new:=[_,_]) j8 U U U U U U .head U U<|z6<|y3 (zb (zc .t2))<|y3 (zb (zc .t2))<|y3 (zb (zc .t2))<|y3 (aX.eq (show _=([(iq,.cells 196 [.own i38 q1.seen.length,.own jo q1.out.length]),(i38,.grow 1 3 (cI (q1.seen.map jJ))),(jo,.grow 3 117 (q1.out.map ee).flatten)]:OL) from (by rw[hqs,hqo,hkey,qq,qv,←lw];rfl))) ?_
   rcases hm:b4 f c with _|x
   ·rw[hm] at hQ
    dsimp only at hQ
    refine ae<|ac ju jf U U<|aa U<|ze (hM hm) U<|y6 (cs:=[.int .i64 0,.int .i64 0,.raw (.slice none 0 0),.int .i64 0]) Z4 U U<|fun i11=>y1 jv U U U U U U .head U<|zf (yf (t:=11) U .head)<|z6<|zd<|ae<|ao j5 U j6 U U<|ay j7 U<|ax U U<|z6<|yl U U<|zi<|yh ?_
    exact ⟨(i38,jo),rfl,⟨_,.refl _,by rw[hQ]⟩,trivial⟩
   ·rw[hm] at hQ
    dsimp only at hQ
    obtain ⟨hF,_,_⟩:=hR.madeF hm
    have hdst:=pP hm
    have a0:∀{k:Int},x.op=k→0<([0,1,2,2,2,2,2,2,2,2,1,2,1,2,3,1,0,1,2,1,1,2,2,2,1,2,2][k.toNat]?).getD 0→(aZ f (bc x)=true∧mC f (bc x)<n)∧0<x.args.length:=fun e h=>by
     have hl:0<x.args.length:=by rw[hF.cnt e];exact h
     have:=hR.rk0 hm hl
     exact ⟨⟨lR (hF.a0 hl),by omega⟩,hl⟩
    have a1:∀{k:Int},x.op=k→1<([0,1,2,2,2,2,2,2,2,2,1,2,1,2,3,1,0,1,2,1,1,2,2,2,1,2,2][k.toNat]?).getD 0→(aZ f (bC x)=true∧mC f (bC x)<n)∧1<x.args.length:=fun e h=>by
     have hl:1<x.args.length:=by rw[hF.cnt e];exact h
     have:=hR.rk1 hm hl
     exact ⟨⟨lR (hF.a1 hl),by omega⟩,hl⟩
    refine ae<|ac ju jf U U<|aa U<|ze (hM2 x hm) U<|y6 (cs:=[.int .i64 0,.int .i64 0,.raw (.slice none 0 0),.int .i64 0]) Z4 U U<|fun i11=>y1 jv U U U U U U .head U<|zf (yf (t:=11) U .head)<|z6<|zd<|ae<|ao j5 U j6 U U<|ay j7 U<|ax U U<|z6<|yg U (qy (by rw[hdst];omega))<|zg<|ae<|za (y5 (cps:=[(2,[_])]) (rs:=[.int .i64 0,.int .i64 0,_]) rM U U U)<|y6 (cs:=[.int .i64 0,.int .i64 0,.int .i64 0]) zeroValue117 U U<|fun i12=>y1 Yx U U U U U U .head U<|z6<|zd<|ae<|ao j5 U jy U U<|ay Z2 U<|z6<|y3 (zb (zc .t3))<|y3 (zb (zc .t3))<|y3 (zb (zc .t3))<|ya (γ:=(gq × Nat × Nat) × v2) [0,12] (fun g=>[]) (fun g=>[(iq,.cells 196 [.own g.1.2.1 g.1.1.seen.length,.own g.1.2.2 g.1.1.out.length]),(g.1.2.1,.grow 1 3 (cI (g.1.1.seen.map jJ))),(g.1.2.2,.grow 3 117 (g.1.1.out.map ee).flatten),(i12,.cells 117 [.int .i64 g.2.a,.int .i64 g.2.b,.int .i64 g.2.n])]) (fun g=>kF f g.1.1∧Z=GE g.1.1 g.2) ?_ (fun _ _ h=>h) ?_
    ·refine zj<|ae<|ai U U<|ab U<|z6<|zu U (fun c10=>?_) (fun c10=>?_)
     ·have c10:x.op=10:=c10
      obtain ⟨⟨h1,h2⟩,h3⟩:=a0 c10 (by decide)
      rw[if_pos c10] at hQ
      refine zw (fun j=>false) (by kernel_rfl) U (zh (.rest _))<|ak 0 U (ef U)<|ak 1 U (yr ju jf U U)<|ak 2 U (bx j5 U j8 U U)<|ak 3 U (dx j9 U)<|ak 4 U (bh 0 wz j6 U U U (bn h3))<|ak 5 U (b7 j7 U)<|ak 6 U (l6 U)<|ak 7 U (Gv.not U)<|ba 8 U<|zr U (zh (.l (.l (.l (.r (.rest _)))))) (ih q1 i38 jo (bc x) (!is) h1 h2 hA1) ?_
      rintro r60 O60 ⟨⟨j1,j2⟩,rfl,rfl,_⟩
      refine z6<|bY ?_
      exact ⟨((fv f n q1 (bc x) (!is),j1,j2),⟨0,0,-1⟩),(by repeat (first|with_reducible exact zp _ _|refine zz rfl ?_|exact cV)),trivial,aD,⟨lp hR n _ _ _ hA1 h1,hQ⟩⟩
     ·have c10:¬x.op=10:=c10
      rw[if_neg c10] at hQ
      refine ae<|ai U U<|ab U<|z6<|zu U (fun c1=>?_) (fun c1=>?_)
      ·have c1:x.op=1:=c1
       obtain ⟨⟨h1,h2⟩,h3⟩:=a0 c1 (by decide)
       rw[if_pos c1] at hQ
       refine zw (fun j=>false) (by kernel_rfl) U (zh (.rest _))<|ak 0 U (ef U)<|ak 1 U (yr ju jf U U)<|ak 2 U (bx j5 U j8 U U)<|ak 3 U (dx j9 U)<|ak 4 U (bh 0 wz j6 U U U (bn h3))<|ak 5 U (b7 j7 U)<|ak 6 U (l6 U)<|ba 7 U<|zr U (zh (.l (.l (.l (.r (.rest _)))))) (ih q1 i38 jo (bc x) is h1 h2 hA1) ?_
       rintro r70 O70 ⟨⟨j1,j2⟩,rfl,rfl,_⟩
       refine z6<|bY ?_
       exact ⟨((fv f n q1 (bc x) is,j1,j2),⟨0,0,-1⟩),(by repeat (first|with_reducible exact zp _ _|refine zz rfl ?_|exact cV)),trivial,aD,⟨lp hR n _ _ _ hA1 h1,hQ⟩⟩
      ·have c1:¬x.op=1:=c1
       rw[if_neg c1] at hQ
       refine ae<|ai U U<|ab U<|z6<|zu U (fun c11=>?_) (fun c11=>?_)
       ·have c11:x.op=11:=c11
        obtain ⟨⟨h1,h2⟩,h3⟩:=a0 c11 (by decide)
        obtain ⟨⟨g1,g2⟩,g3⟩:=a1 c11 (by decide)
        rw[if_pos c11] at hQ
        refine ae<|aj U<|z6<|zy U (fun ci=>?_) (fun ci=>?_)
        ·have ci:is=true:=ci
         rw[if_pos ci] at hQ
         subst ci
         have hB1:=lp hR n _ _ true hA1 h1
         refine zd<|zw (fun j=>false) (by kernel_rfl) U (zh (.rest _))<|ak 0 U (ef U)<|ak 1 U (yr ju jf U U)<|ak 2 U (bx j5 U j8 U U)<|ak 3 U (dx j9 U)<|ak 4 U (bh 0 wz j6 U U U (bn h3))<|ak 5 U (b7 j7 U)<|ak 6 U (l6 U)<|ba 7 U<|zr U (zh (.l (.l (.l (.r (.rest _)))))) (ih q1 i38 jo (bc x) true h1 h2 hA1) ?_
         rintro r81 O81 ⟨⟨j1,j2⟩,rfl,rfl,_⟩
         refine z6<|bY<|zw (fun j=>false) (by kernel_rfl) U (zh (.rest _))<|ak 0 U (ef U)<|ak 1 U (yr ju jf U U)<|ak 2 U (bx j5 U j8 U U)<|ak 3 U (dx j9 U)<|ak 4 U (bh 1 wz j6 U U U (bw g3))<|ak 5 U (b7 j7 U)<|ak 6 U (l6 U)<|ba 7 U<|zr U (zh (.l (.l (.l (.r (.rest _)))))) (ih _ j1 j2 (bC x) true g1 g2 hB1) ?_
         rintro r89 O89 ⟨⟨j3,j4⟩,rfl,rfl,_⟩
         refine z6<|bY ?_
         exact ⟨((_,j3,j4),⟨0,0,-1⟩),(by repeat (first|with_reducible exact zp _ _|refine zz rfl ?_|exact cV)),trivial,aD,⟨lp hR n _ _ _ hB1 g1,hQ⟩⟩
        ·have ci:¬is=true:=by rw[show is=false from ci];decide
         rw[if_neg ci] at hQ
         refine zg ?_
         exact ⟨((q1,i38,jo),⟨0,0,-1⟩),(by repeat (first|with_reducible exact zp _ _|refine zz rfl ?_|exact cV)),trivial,aD,⟨hA1,hQ⟩⟩
       ·have c11:¬x.op=11:=c11
        rw[if_neg c11] at hQ
        refine ae<|ai U U<|ab U<|z6<|zu U (fun c8=>?_) (fun c8=>?_)
        ·have c8:x.op=8:=c8
         obtain ⟨_,h3⟩:=a0 c8 (by decide)
         obtain ⟨_,g3⟩:=a1 c8 (by decide)
         rw[if_pos c8] at hQ
         refine zd<|zw (fun j=>Nat.beq j 9) (by kernel_rfl) U (zh (.rest _))<|ak 0 U (bx j5 U j8 U U)<|ak 1 U (dx j9 U)<|ak 2 U (bh 0 wz j6 U U U (bn h3))<|ak 3 U (b7 j7 U)<|ak 4 U (bx j5 U j8 U U)<|ak 5 U (dx j9 U)<|ak 6 U (bh 1 wz j6 U U U (bw g3))<|ak 7 U (b7 j7 U)<|ak 8 U (y5 (cps:=[(0,[_]),(1,[_]),(2,[_])]) (rs:=[_,_,_]) rM U U U)<|ym<|yi (i:=9) U (by kernel_rfl) (by kernel_rfl)<|y1 Yx U U U U U U .t3 U<|z6<|yo (by kernel_rfl)<|ae<|aj U<|aB U<|z6<|zy U (fun ci=>?_) (fun ci=>?_)
         ·have ci:is=false:=by simpa using ci
          rw[if_neg (show ¬is=true by rw[ci];decide)] at hQ
          refine zw (fun j=>Nat.beq j 9) (by kernel_rfl) U (zh (.rest _))<|ak 0 U (bx j5 U j8 U U)<|ak 1 U (dx j9 U)<|ak 2 U (bh 1 wz j6 U U U (bw g3))<|ak 3 U (b7 j7 U)<|ak 4 U (bx j5 U j8 U U)<|ak 5 U (dx j9 U)<|ak 6 U (bh 0 wz j6 U U U (bn h3))<|ak 7 U (b7 j7 U)<|ak 8 U (y5 (cps:=[(0,[_]),(1,[_]),(2,[_])]) (rs:=[_,_,_]) rM U U U)<|ym<|yi (i:=9) U (by kernel_rfl) (by kernel_rfl)<|y1 Yx U U U U U U .t3 U<|z6<|yo (by kernel_rfl) ?_
          exact ⟨((q1,i38,jo),⟨bC x,bc x,1⟩),(by repeat (first|with_reducible exact zp _ _|refine zz rfl ?_|exact cV)),trivial,aD,⟨hA1,hQ⟩⟩
         ·have ci:is=true:=by simpa using ci
          rw[if_pos ci] at hQ
          refine zg ?_
          exact ⟨((q1,i38,jo),⟨bc x,bC x,0⟩),(by repeat (first|with_reducible exact zp _ _|refine zz rfl ?_|exact cV)),trivial,aD,⟨hA1,hQ⟩⟩
        ·have c8:¬x.op=8:=c8
         rw[if_neg c8] at hQ
         refine ae<|ai U U<|ab U<|z6<|zu U (fun c9=>?_) (fun c9=>?_)
         ·have c9:x.op=9:=c9
          obtain ⟨_,h3⟩:=a0 c9 (by decide)
          obtain ⟨_,g3⟩:=a1 c9 (by decide)
          rw[if_pos c9] at hQ
          refine zd<|zw (fun j=>Nat.beq j 9) (by kernel_rfl) U (zh (.rest _))<|ak 0 U (bx j5 U j8 U U)<|ak 1 U (dx j9 U)<|ak 2 U (bh 0 wz j6 U U U (bn h3))<|ak 3 U (b7 j7 U)<|ak 4 U (bx j5 U j8 U U)<|ak 5 U (dx j9 U)<|ak 6 U (bh 1 wz j6 U U U (bw g3))<|ak 7 U (b7 j7 U)<|ak 8 U (y5 (cps:=[(0,[_]),(1,[_]),(2,[_])]) (rs:=[_,_,_]) rM U U U)<|ym<|yi (i:=9) U (by kernel_rfl) (by kernel_rfl)<|y1 Yx U U U U U U .t3 U<|z6<|yo (by kernel_rfl)<|ae<|aj U<|aB U<|z6<|zy U (fun ci=>?_) (fun ci=>?_)
          ·have ci:is=false:=by simpa using ci
           rw[if_neg (show ¬is=true by rw[ci];decide)] at hQ
           refine zw (fun j=>Nat.beq j 9) (by kernel_rfl) U (zh (.rest _))<|ak 0 U (bx j5 U j8 U U)<|ak 1 U (dx j9 U)<|ak 2 U (bh 1 wz j6 U U U (bw g3))<|ak 3 U (b7 j7 U)<|ak 4 U (bx j5 U j8 U U)<|ak 5 U (dx j9 U)<|ak 6 U (bh 0 wz j6 U U U (bn h3))<|ak 7 U (b7 j7 U)<|ak 8 U (y5 (cps:=[(0,[_]),(1,[_]),(2,[_])]) (rs:=[_,_,_]) rM U U U)<|ym<|yi (i:=9) U (by kernel_rfl) (by kernel_rfl)<|y1 Yx U U U U U U .t3 U<|z6<|yo (by kernel_rfl) ?_
           exact ⟨((q1,i38,jo),⟨bC x,bc x,0⟩),(by repeat (first|with_reducible exact zp _ _|refine zz rfl ?_|exact cV)),trivial,aD,⟨hA1,hQ⟩⟩
          ·have ci:is=true:=by simpa using ci
           rw[if_pos ci] at hQ
           refine zg ?_
           exact ⟨((q1,i38,jo),⟨bc x,bC x,1⟩),(by repeat (first|with_reducible exact zp _ _|refine zz rfl ?_|exact cV)),trivial,aD,⟨hA1,hQ⟩⟩
         ·have c9:¬x.op=9:=c9
          rw[if_neg c9] at hQ
          refine ae<|ai U U<|ab U<|z6<|zu U (fun c7=>?_) (fun c7=>?_)
          ·have c7:x.op=7:=c7
           obtain ⟨_,h3⟩:=a0 c7 (by decide)
           obtain ⟨_,g3⟩:=a1 c7 (by decide)
           rw[if_pos c7] at hQ
           refine ae<|aj U<|z6<|zy U (fun ci=>?_) (fun ci=>?_)
           ·have ci:is=true:=ci
            rw[if_pos ci] at hQ
            refine zw (fun j=>Nat.beq j 9) (by kernel_rfl) U (zh (.rest _))<|ak 0 U (bx j5 U j8 U U)<|ak 1 U (dx j9 U)<|ak 2 U (bh 0 wz j6 U U U (bn h3))<|ak 3 U (b7 j7 U)<|ak 4 U (bx j5 U j8 U U)<|ak 5 U (dx j9 U)<|ak 6 U (bh 1 wz j6 U U U (bw g3))<|ak 7 U (b7 j7 U)<|ak 8 U (y5 (cps:=[(0,[_]),(1,[_]),(2,[_])]) (rs:=[_,_,_]) rM U U U)<|ym<|yi (i:=9) U (by kernel_rfl) (by kernel_rfl)<|y1 Yx U U U U U U .t3 U<|z6<|yo (by kernel_rfl) ?_
            exact ⟨((q1,i38,jo),⟨bc x,bC x,2⟩),(by repeat (first|with_reducible exact zp _ _|refine zz rfl ?_|exact cV)),trivial,aD,⟨hA1,hQ⟩⟩
           ·have ci:¬is=true:=by rw[show is=false from ci];decide
            rw[if_neg ci] at hQ
            refine zg ?_
            exact ⟨((q1,i38,jo),⟨0,0,-1⟩),(by repeat (first|with_reducible exact zp _ _|refine zz rfl ?_|exact cV)),trivial,aD,⟨hA1,hQ⟩⟩
          ·have c7:¬x.op=7:=c7
           rw[if_neg c7] at hQ
           refine zg ?_
           exact ⟨((q1,i38,jo),⟨0,0,-1⟩),(by repeat (first|with_reducible exact zp _ _|refine zz rfl ?_|exact cV)),trivial,aD,⟨hA1,hQ⟩⟩
    ·rintro ⟨⟨q2,js2,jo2⟩,⟨ra,rb,rn⟩⟩ ⟨hG2,hZ2⟩
     dsimp only at hG2 hZ2 ⊢
     have hol2:=hG2.len
     have hrf:=uJ q2.out
     unfold GE at hZ2
     dsimp only at hZ2
     refine zd<|ya (γ:=Bool) [0,12] (fun u=>[(155,.bool u)]) (fun u=>[(iq,.cells 196 [.own js2 q2.seen.length,.own jo2 q2.out.length]),(js2,.grow 1 3 (cI (q2.seen.map jJ))),(jo2,.grow 3 117 (q2.out.map ee).flatten),(i12,.cells 117 [.int .i64 ra,.int .i64 rb,.int .i64 rn])]) (fun u=>u=decide (0≤rn∧¬ra=rb)) ?_ (fun _ _ h=>h) ?_
     ·clear hQ hZ2 ih hM hM2 hG2 hQG hA1 hA2 a0 a1 hki hall hR hA hf hF
      refine aO<|za (zn Zw U Za (by decide) U U)<|za (zt (c:=.int _ _) Zj U ⟨_,.t3⟩ U)<|za (yy U U)<|aj U<|zo (s:=149) U (fun c1=>?_) (fun c1=>?_)
      ·refine z8 U U c1<|za (zn Zw U j6 (by decide) U U)<|z8 U U c1<|za (zt (c:=.int _ _) j7 U ⟨_,.t3⟩ U)<|z8 U U c1<|za (zn Zw U j6 (by decide) U U)<|z8 U U c1<|za (zt (c:=.int _ _) j7 U ⟨_,.t3⟩ U)<|z8 U U c1<|aM U U<|aq U c1 U<|z6 ?_
       exact ⟨_,(by repeat (first|with_reducible exact zp _ _|refine zz rfl ?_|exact cV)),aH,aD,by simp_all<;>omega⟩
      ·refine z7 U U c1<|z7 U U c1<|z7 U U c1<|z7 U U c1<|z7 U U c1<|au U c1 U<|z6 ?_
       exact ⟨_,(by repeat (first|with_reducible exact zp _ _|refine zz rfl ?_|exact cV)),aH,aD,by simp_all<;>omega⟩
     ·rintro u hu
      refine zy U (fun cu=>?_) (fun cu=>?_)
      ·have cu:=w4 (hu▸cu)
       rw[if_pos cu.1] at hZ2
       unfold dS at hZ2
       rw[if_neg cu.2] at hZ2
       refine zw (fun j=>Nat.beq j 10) (by kernel_rfl) U (zh (.r (.l (.l (.r (.rest _))))))<|ak 0 U (ef U)<|ak 1 U (ef U)<|ak 2 U (yb U)<|ak 3 U (zn Yy U sizeOf114 (by decide) U U)<|ak 4 U (zt (c:=.own _ _) isAgg114 U ⟨_,.head⟩ U)<|ak 5 U (Gv.loadWC isAgg117 Yx U ⟨_,.t1⟩ U)<|ba 6 U<|y4 (rows:=[[_,_,_]]) DW U U U U U<|z6<|ba 7 U<|yj (k:=3) underlying114 type117 U U U U U (fun _=>.t1) hrf (by decide) U (by show (_+_)*24≤_;simp<;>omega) (by simp<;>omega)<|fun i163=>z6<|yx (i:=8) U (by kernel_rfl) (by kernel_rfl) (by kernel_rfl) (by kernel_rfl) (yb U)<|ak 9 U (zn Yy U sizeOf114 (by decide) U U)<|ym<|yi (i:=10) U (by kernel_rfl) (by kernel_rfl)<|yw (l:=[_]) (new:=[_,_]) sizeOf114 U U U U U U .head U U<|z6<|yo (by kernel_rfl)<|ye (zb (zc .t3))<|ye (zb (zc .t3))<|ye (zb (zc .t2))<|yh ?_
       exact ⟨(js2,i163),rfl,⟨_,.keep (.keep (.keep (.drop (.refl _)))),by rw[hZ2,qv,List.flatten_append,qq];rfl⟩,trivial⟩
      ·have cu:=w5 (hu▸cu)
       have hZ3:Z=q2:=by
        rw[hZ2]
        by_cases h:0≤rn
        ·rw[if_pos h]
         unfold dS
         rw[if_pos (Classical.byContradiction fun e=>cu ⟨h,e⟩)]
        ·rw[if_neg h]
       refine zg<|yh ?_
       exact ⟨(js2,jo2),rfl,⟨_,.keep (.keep (.keep (.drop (.refl _)))),by rw[hZ3]⟩,trivial⟩
end Go.Proofs.YtdilpodccjlkgaaGreatDoor
namespace Go.Proofs.YtdilpodccjlkgaaGreatDoor
open Go.Proofs.Tryz
open Go.Proofs
def Cs (x y:AV):Prop:=∀I v,bq I x v→bq I y v
def Aj (xs ys:List AV):Prop:=∀I vs,RepL I xs vs→RepL I ys vs
theorem Cs.refl (x:AV):Cs x x:=fun _ _ h=>h
theorem Cs.nil (k:Nat):Cs (.raw (.slice none 0 0)) (.fro k []):=fun _ _ h=>⟨none,0,0,h,rfl,Nat.le_refl _,fun _=>rfl,trivial⟩
theorem Aj.nil:Aj [] []:=fun _ _ h=>h
theorem Aj.cons {x y:AV} {xs ys:List AV} (h:Cs x y) (hs:Aj xs ys):Aj (x::xs) (y::ys):=fun I _ ⟨v,us,e,h1,h2⟩=>⟨v,us,e,h I v h1,hs I us h2⟩
theorem Cs.agg {xs ys:List AV} (h:Aj xs ys):Cs (.agg xs) (.agg ys):=fun I _ ⟨vs,e,h1⟩=>⟨vs,e,h I vs h1⟩
end Go.Proofs.YtdilpodccjlkgaaGreatDoor
namespace Go.Proofs.YtdilpodccjlkgaaGreatDoor
open Go.Proofs.Tryz
open Go.Proofs Go.Lib Go.Shelf Go.RowKit
theorem GF:cX prog 196 #[(0,1),(1,1)] [.raw (.slice none 0 0),.raw (.slice none 0 0)]:=⟨_,_,Yy,zeroValue196,fun w=>by kernel_rfl,rfl⟩
variable {E:World}
set_option maxRecDepth 20000
theorem u4 (f:ad) (hf:small f) (hR:bE f) (hv:f.vars.length≤1000) (iq:Nat):∀n,Fk E f iq n
 |0=>fun _ _ _ _ _ _ h=>by omega
 |n+1=>Ai f hf hR hv iq n (u4 f hf hR hv iq n)
theorem kF.emp (f:ad):kF f ⟨[],[]⟩:=⟨List.nodup_nil,fun k hk=>(by cases hk),Nat.le_refl _⟩
theorem sW (f:ad) (hf:small f) (hR:bE f) (hv:f.vars.length≤1000) (c:Int) (is:Bool) (hc:aZ f c=true) :
  aK prog E 83 [.agg (bD f),.int .i64 c,.bool is] (.fro 3 ((gS f c is).map ee)):=by
 have hA:=fun iq js jo=>u4 (E:=E) f hf hR hv iq 100000 ⟨[],[]⟩ js jo c is hc (hR.rk_low c) (kF.emp f)
 unfold Cr at hA
 refine zq func83 U (by decide) U<|ae<|y9 (cs:=_) U U U<|bF U<|z6<|ae<|za (y5 (cps:=[]) (rs:=[.raw (.slice none 0 0),.raw (.slice none 0 0)]) GF U U U)<|yk (cs:=_) U U U U<|fun i9=>za (gc U)<|z6<|fe (off:=0) (k:=1) (T:=3) (fun _=>.head) U<|fun js=>fe (off:=1) (k:=3) (T:=117) (fun _=>.t1) U<|fun jo=>y3 (zb (zc .head))<|y3 (zb (zc .t1))<|y3 (zb (zc .t2))<|y3 (zb (zc .t2))<|y3 (zb (zc .t2))<|y3 (zb (zc .t2))<|ae<|aE U<|ac ju jf U U<|aa U<|aj U<|zr U (zh (.l (.l (.l (.rest _))))) (hA i9 js jo) ?_
 rintro r14 O14 ⟨⟨j1,j2⟩,rfl,rfl,_⟩
 refine z6<|y3 (aX.knowC (off:=1) (rows:=(gS f c is).map ee) .t2 .head U (by exact pB _) (by decide) (by rw[qr];rfl))<|ae<|aE U<|aw U<|za (zn Yy U sizeOf114 (by decide) U U)<|za (zt (c:=.fro _ _) isAgg114 U ⟨_,.head⟩ U)<|za (kO U)<|z6<|zi<|zm (x:=.fro _ _) U ?_
 rfl
theorem u5 {b:Int}:∀{l:List Int},l.Nodup→(l.filter fun c=>decide (c=b))=if b∈l then[b] else[]
 |[],_=>rfl
 |x::l,h=>by
  rw[List.nodup_cons] at h
  rw[List.filter_cons,u5 h.2]
  by_cases e:x=b
  ·subst e
   rw[if_pos (by simp),if_neg h.1,if_pos (.head _)]
  ·rw[if_neg (by simpa using e)]
   by_cases hm:b∈l
   ·rw[if_pos hm,if_pos (.tail _ hm)]
   ·rw[if_neg hm,if_neg (fun k=>by rcases List.mem_cons.1 k with k|k;exact e k.symm;exact hm k)]
def qL (f:ad) (b:Int) (k:Nat):List Int:=((aU f.blocks.length).take k).flatMap fun i=>((ah f i).filter fun c=>decide (c=b)).map fun _=>i
theorem Ak {f:ad} {b:Int} {k:Nat} (hk:k<f.blocks.length):qL f b (k+1)=qL f b k++if b∈ah f k then[(k:Int)] else[]:=by
 have hg:(aU f.blocks.length)[k]?=some (k:Int):=by unfold aU;rw[qs,List.getElem?_range hk];rfl
 unfold qL
 rw[List.take_add_one,hg,List.flatMap_append]
 show _++List.flatMap _ [(k:Int)]=_
 rw[List.flatMap_cons,List.flatMap_nil,qw,u5 (go f _)]
 split<;>rfl
theorem Ct (f:ad) (b:Int) (k:Nat):∃r,bd (ah f) f.blocks.length b=qL f b k++r:=by
 refine ⟨((aU f.blocks.length).drop k).flatMap fun i=>((ah f i).filter fun c=>decide (c=b)).map fun _=>i,?_⟩
 unfold qL
 rw[←List.flatMap_append,List.take_append_drop];rfl
theorem Cu (f:ad) (b:Int):qL f b f.blocks.length=bd (ah f) f.blocks.length b:=by
 unfold qL
 rw[List.take_of_length_le (by rw[bA];omega)];rfl
def Fl (f:ad) (b:Int) (k:Nat) (fr:Int):Prop:=(fr=-1∧qL f b k=[])∨((0≤fr∧fr<f.blocks.length)∧qL f b k=[fr])
set_option maxHeartbeats 4000000 in
theorem Al {f:ad} (hf:small f) (hR:bE f) (i:Nat):aK prog E 45 [.agg (bD f),.int .i64 i] (.fro 3 ((vg f i).map ee)):=by
 have hn:f.blocks.length≤1000:=hf.2.2.1
 have hv:=hf.1
 refine zq func45 U (by decide) U<|ae<|y9 (cs:=_) U U U<|bF U<|z6<|ae<|ap U<|z6<|zd<|ae<|ao jg U Z6 U U<|aI Zd U<|ar jk U<|aa U<|z6<|zj<|y8 (γ:=Nat × Int) [1,2,10] (fun g=>[(11,.int .i64 g.1),(5,.int .i64 g.2)]) (fun g=>[]) (fun g=>g.1≤f.blocks.length∧Fl f i g.1 g.2) (fun g=>f.blocks.length - g.1) (0,-1) cV aD (⟨qn _,.inl ⟨U,U⟩⟩) ?_
 rintro ⟨k,fr⟩ ⟨hk,hS⟩
 try dsimp only at *
 refine ae<|ax U U<|z6<|zd<|zu U (fun ck=>?_) (fun ck=>?_)
 ·have hk2:k<f.blocks.length:=by omega
  have hsu:=Ak (f:=f) (b:=i) hk2
  refine zg<|zd<|zj<|ae<|aa U<|ap U<|z6<|ae<|ac ju jf U U<|aa U<|aa U<|ze (jH f hn k i (by omega) (by omega)) U<|z6<|zy U (fun cl=>?_) (fun cl=>?_)
  ·have hl:(i:Int)∈ah f k:=w4 cl
   rw[if_pos hl] at hsu
   refine zd<|ae<|aa U<|za (yy U U)<|z6<|zu U (fun c2=>?_) (fun c2=>?_)
   ·have h2:(vg f i)=[]:=by
     refine wl fun h=>?_
     obtain ⟨r,hr⟩:=Ct f i (k+1)
     rcases hS with ⟨h1,_⟩|⟨_,h1⟩
     ·omega
     ·rw[hr,hsu,h1] at h
      simp at h
    rw[h2]
    refine ae<|bF U<|z6<|y3 (aX.slot (t:=4) U (Cs.nil 3))<|zi<|zm (x:=.fro _ _) U ?_
    rfl
   ·have h1:qL f i k=[]:=by
     rcases hS with ⟨_,h1⟩|⟨h1,_⟩
     ·exact h1
     ·omega
    refine zg<|aO<|aa U<|ap U<|z6<|aO<|aC U U<|aa U<|z6 ?_
    exact ⟨(k+1,(k:Int)),de,cV,aD,⟨hk2,.inr ⟨⟨by omega,by omega⟩,by rw[hsu,h1];rfl⟩⟩,by dsimp only;omega⟩
  ·have hl:¬(i:Int)∈ah f k:=w5 cl
   rw[if_neg hl,qw] at hsu
   refine zg<|aO<|aC U U<|aa U<|z6 ?_
   exact ⟨(k+1,fr),de,cV,aD,⟨hk2,by unfold Fl;rw[hsu];exact hS⟩,by dsimp only;omega⟩
 ·obtain rfl:k=f.blocks.length:=by omega
  unfold Fl at hS
  rw[Cu] at hS
  refine y7<|zd<|ae<|aa U<|ax U U<|z6<|zu U (fun c3=>?_) (fun c3=>?_)
  ·have h2:(vg f i)=[]:=by
    refine wl fun h=>?_
    rcases hS with ⟨_,h1⟩|⟨h1,_⟩
    ·rw[h1] at h;cases h
    ·omega
   rw[h2]
   refine ae<|bF U<|z6<|y3 (aX.slot (t:=4) U (Cs.nil 3))<|zi<|zm (x:=.fro _ _) U ?_
   rfl
  ·obtain ⟨hfr,hp⟩:(0≤fr∧fr<f.blocks.length)∧bd (ah f) f.blocks.length i=[fr]:=by
    rcases hS with ⟨h1,_⟩|h1
    ·omega
    ·exact h1
   obtain ⟨q,rfl⟩:∃q:Nat,fr=(q:Int):=⟨fr.toNat,by omega⟩
   have hq:=qk (show q<f.blocks.length by omega)
   obtain ⟨B,hB⟩:∃B,f.blocks[q]=B:=⟨_,rfl⟩
   rw[hB] at hq
   have hbq:=fw hq
   have hat:vg f i=if B.term.kind=1∧B.term.to0≠B.term.to1 then gS f B.term.var (decide (B.term.to0=i)) else[]:=by unfold vg;rw[hp];dsimp only;rw[hbq]
   refine zg<|ae<|ao jg U Z6 U U<|aI Zd U<|aa U<|za (bh q jk Z0 U U U hq)<|ao jj U Zm U U<|ac isAgg49 Zm U U<|y6 (cs:=[.int .i64 0,.int .i64 0,.int .i64 0,.int .i64 0]) zeroValue49 U U<|fun i7=>y1 Zm U U U U U U .head U<|zf (yf (t:=7) U .head)<|z6<|zd<|zd<|ya (γ:=Bool) [1,2,7] (fun u=>[(41,.bool u)]) (fun u=>[]) (fun u=>u=decide (¬(B.term.kind=1∧B.term.to0≠B.term.to1))) ?_ (fun _ _ h=>h) ?_
   ·clear hat hbq hB hp
    refine aO<|ao jh U Zz U U<|ay Y8 U<|aM U U<|aj U<|zo (s:=33) U (fun c1=>?_) (fun c1=>?_)
    ·refine z7 U U c1<|z7 U U c1<|z7 U U c1<|z7 U U c1<|z7 U U c1<|z7 U U c1<|z7 U U c1<|aq U c1 U<|z6 ?_
     exact ⟨_,(by repeat (first|with_reducible exact zp _ _|refine zz rfl ?_|exact de)),aH,aD,by simp_all⟩
    ·refine z8 U U c1<|ao jh U Ze U U<|z8 U U c1<|za (yv (j:=0) Z1 j6 U U U (by decide) U)<|z8 U U c1<|ay j7 U<|z8 U U c1<|ao jh U Ze U U<|z8 U U c1<|za (yv (j:=1) Z1 j6 U U U (by decide) U)<|z8 U U c1<|ay j7 U<|z8 U U c1<|ai U U<|au U c1 U<|z6 ?_
     exact ⟨_,(by repeat (first|with_reducible exact zp _ _|refine zz rfl ?_|exact de)),aH,aD,by simp_all⟩
   ·rintro u hu
    refine zy U (fun cu=>?_) (fun cu=>?_)
    ·rw[hat,if_neg (w4 (hu▸cu))]
     refine ae<|bF U<|z6<|y3 (aX.slot (t:=4) U (Cs.nil 3))<|zi<|zm (x:=.fro _ _) U ?_
     rfl
    ·have hc:B.term.kind=1∧B.term.to0≠B.term.to1:=by rw[hu] at cu;simpa using cu
     rw[hat,if_pos hc]
     have hbm:=qu hq
     have hvk:aZ f B.term.var=true:=by
      have h1:=(hR.run.term _ hbm)
      unfold bM at h1
      rw[if_neg (by omega),if_pos hc.1] at h1
      simp only[qz] at h1
      exact h1.1.1
     refine zg<|ae<|ac ju jf U U<|ao jh U j6 U U<|ay j7 U<|ao jh U Ze U U<|za (yv (j:=0) Z1 j6 U U U (by decide) U)<|ay j7 U<|aa U<|ai U U<|ze (sW f hf hR hv B.term.var (decide (B.term.to0=(i:Int))) hvk) U<|za (kO U)<|z6<|zi<|zm (x:=.fro _ _) U ?_
     rfl
end Go.Proofs.YtdilpodccjlkgaaGreatDoor
namespace Go.Proofs.YtdilpodccjlkgaaGreatDoor
open Go.Proofs.Tryz
open Go.Proofs Go.Lib Go.Shelf Go.RowKit
theorem GG:cX prog 109 #[(0,3),(3,1),(4,1),(5,1)] [.raw (.slice none 0 0),.raw (.slice none 0 0),.raw (.slice none 0 0),.int .i64 0,.raw (.slice none 0 0),.raw (.slice none 0 0)]:=⟨_,_,jw,zeroValue109,fun w=>by kernel_rfl,rfl⟩
variable {E:World}
set_option maxRecDepth 20000
theorem DX {f:ad} (hR:bE f) (i:Int):(vg f i).length≤2*f.vars.length:=by
 unfold vg;split
 ·rename_i p hp
  split
  ·rename_i hc
   obtain ⟨hp1,_⟩:=hR.pred hp
   have hpr:0≤p∧p<f.blocks.length:=Classical.byContradiction fun hn=>by rw[iV hn] at hp1;cases hp1
   have hvk:aZ f (gW f p).term.var=true:=by
    have h1:=(hR.run.term _ (xm hpr.1 hpr.2))
    unfold bM at h1
    rw[if_neg (by omega),if_pos hc.1] at h1
    simp only[qz] at h1
    exact h1.1.1
   exact rH hR _ hvk
  ·exact qn _
 ·exact qn _
section
variable {f:ad} {K:KS} {P:List aF} {iw jl jp:Nat}
set_option maxHeartbeats 4000000 in
theorem u6 (hf:small f) (hR:bE f) (hK:KB f K) (i:Nat) (hi:i<f.blocks.length) :
  aR prog E 25 [.po iw 0,.int .i64 i] (li f iw jl jp K P) (fun y O=>∃g:Nat,y=.tup []∧O=li f iw g jp (fK f K i) P∧True):=by
 refine yu (γ:=Nat) (x:=fun g=>.tup []) (M:=fun g=>li f iw g jp (fK f K i) P) (p:=fun _=>True) ?_
 have add:=fun jl K hK a b c=>k9 (E:=E) (f:=f) (P:=P) (iw:=iw) (jp:=jp) jl K hK a b c
 have hat:=Al (E:=E) hf hR i
 have hN:∀r∈vg f i,sC f r:=Gg hR i
 have hRl:=DX hR i
 have hvl:=hf.1
 unfold fK
 obtain ⟨R,hRe⟩:∃R,vg f i=R:=⟨_,rfl⟩
 rw[hRe] at hN hat hRl ⊢
 unfold bD at hat
 unfold li at *
 refine zq func25 U (by decide) U<|ae<|aE U<|aw U<|za (zn jw U jf (by decide) U U)<|za (Gv.loadAC (l:=[_,_,_]) ju jf U ⟨_,.head⟩ U U)<|aa U<|ze (hat) U<|ar underlying114 U<|aa U<|z6<|zj<|y8 (γ:=Nat × Nat) [0,11,12] (fun g=>[(13,.int .i64 g.1)]) (fun g=>[(iw,.cells 109 (mx f g.2 ((R.take g.1).foldl et K).l.length jp (P).length)),(g.2,.grow 3 145 (((R.take g.1).foldl et K).l.map bf).flatten),(jp,.grow 4 54 ((P).map aP).flatten)]) (fun g=>g.1≤R.length) (fun g=>R.length - g.1) (0,jl) aH aD (qn _) ?_
 rintro ⟨g,jq⟩ hg
 try dsimp only at *
 have hKB:KB f ((R.take g).foldl et K):=KB.rels _ _ hK fun r hr=>hN r (List.mem_of_mem_take hr)
 refine ae<|ax U U<|z6<|zd<|zu U (fun cg=>?_) (fun cg=>?_)
 ·have hg2:g<R.length:=by omega
  obtain ⟨r,hr⟩:∃r,R[g]=r:=⟨_,rfl⟩
  have hgr:R[g]?=some r:=by rw[qk hg2,hr]
  have hrn:=hN r (qu hgr)
  have hstep:(R.take (g+1)).foldl et K=et ((R.take g).foldl et K) r:=by rw[List.take_add_one,hgr,List.foldl_append];rfl
  obtain ⟨Q,hQ⟩:∃Q,(R.take g).foldl et K=Q:=⟨_,rfl⟩
  rw[hQ] at hKB hstep
  rw[hQ]
  refine zg<|zd<|zj<|ae<|za (bh g underlying114 Yx U U U hgr)<|ac isAgg117 Yx U U<|y6 (cs:=[.int .i64 0,.int .i64 0,.int .i64 0]) zeroValue117 U U<|fun i5=>y1 Yx U U U U U U .head U<|zf (yf (t:=5) U .head)<|z6<|ae<|ao Zw U Za U U<|ay Zj U<|z6<|zj<|ae<|ai U U<|ab U<|z6<|zu U (fun r0=>?_) (fun r0=>?_)
  ·have hre:et Q r=cQ Q r.a r.b (-1):=by unfold et;rw[if_pos (show r.n=0 from r0)]
   refine aO<|aE U<|ao Zw U j6 U U<|ay j7 U<|ao Zw U j6 U U<|ay j7 U<|zr U (zh (.l (.l (.l (.rest _))))) (add jq Q hKB r.a r.b (-1)) ?_
   rintro r26 O26 ⟨j1,rfl,rfl,_⟩
   refine z6<|aO<|aC U U<|aa U<|z6 ?_
   exact ⟨(g+1,j1),de,aH,⟨_,(.refl _),by rw[hstep,hre];rfl⟩,hg2,by dsimp only;omega⟩
  ·refine ae<|ai U U<|ab U<|z6<|zu U (fun r1=>?_) (fun r1=>?_)
   ·have hre:et Q r=cQ Q r.a r.b 0:=by unfold et;rw[if_neg (show ¬r.n=0 from r0),if_pos (show r.n=1 from r1)]
    refine aO<|aE U<|ao Zw U j6 U U<|ay j7 U<|ao Zw U j6 U U<|ay j7 U<|zr U (zh (.l (.l (.l (.rest _))))) (add jq Q hKB r.a r.b 0) ?_
    rintro r34 O34 ⟨j1,rfl,rfl,_⟩
    refine z6<|aO<|aC U U<|aa U<|z6 ?_
    exact ⟨(g+1,j1),de,aH,⟨_,(.refl _),by rw[hstep,hre];rfl⟩,hg2,by dsimp only;omega⟩
   ·refine ae<|ai U U<|ab U<|z6<|zu U (fun r2=>?_) (fun r2=>?_)
    ·have hre:et Q r=cQ (cQ Q r.a r.b 0) r.b r.a 0:=by unfold et hU;rw[if_neg (show ¬r.n=0 from r0),if_neg (show ¬r.n=1 from r1),if_pos (show r.n=2 from r2)]
     refine ae<|aE U<|ao Zw U j6 U U<|ay j7 U<|ao Zw U j6 U U<|ay j7 U<|zr U (zh (.l (.l (.l (.rest _))))) (add jq Q hKB r.a r.b 0) ?_
     rintro r42 O42 ⟨j1,rfl,rfl,_⟩
     refine z6<|aO<|aE U<|ao Zw U j6 U U<|ay j7 U<|ao Zw U j6 U U<|ay j7 U<|zr U (zh (.l (.l (.l (.rest _))))) (add j1 _ (hKB.add hrn.1.1 hrn.1.2) r.b r.a 0) ?_
     rintro r48 O48 ⟨j2,rfl,rfl,_⟩
     refine z6<|aO<|aC U U<|aa U<|z6 ?_
     exact ⟨(g+1,j2),de,aH,⟨_,(.refl _),by rw[hstep,hre];rfl⟩,hg2,by dsimp only;omega⟩
    ·exfalso
     have:=hrn.2
     have r0:¬r.n=0:=r0
     have r1:¬r.n=1:=r1
     have r2:¬r.n=2:=r2
     omega
 ·obtain rfl:g=R.length:=by omega
  rw[qp]
  refine y7<|yh ?_
  exact ⟨jq,rfl,⟨_,.refl _,rfl⟩,trivial⟩
set_option maxHeartbeats 4000000 in
theorem sX (hf:small f):aR prog E 23 [.agg (bD f)] [] (fun y O=>∃g:Nat × Nat × Nat,y=.po g.1 0∧O=li f g.1 g.2.1 g.2.2 (cT f) []∧True):=by
 refine yu (γ:=Nat × Nat × Nat) (x:=fun g=>.po g.1 0) (M:=fun g=>li f g.1 g.2.1 g.2.2 (cT f) []) (p:=fun _=>True) ?_
 have add:=fun iw jl jp K hK a b c=>k9 (E:=E) (f:=f) (P:=[]) (iw:=iw) (jp:=jp) jl K hK a b c
 have hn:=hf.2.2.1
 have hvl:=hf.1
 unfold li at *
 refine zq func23 U (by decide) U<|ae<|y9 (cs:=_) U U U<|bF U<|z6<|ae<|ac ju jf U U<|ao jg U Y4 U U<|aI Yb U<|ar Z7 U<|za (y5 (cps:=[(0,[_,_,_]),(1,[_])]) (rs:=[_,_,_,_,.raw (.slice none 0 0),.raw (.slice none 0 0)]) GG U U U)<|yk (cs:=_) U U U U<|fun i13=>za (gc U)<|z6<|fe (off:=4) (k:=3) (T:=145) (fun _=>.head) U<|fun jl=>fe (off:=5) (k:=4) (T:=54) (fun _=>.t1) U<|fun jp=>y3 (zb (zc .head))<|y3 (zb (zc .t1))<|y3 (zb (zc .t2))<|zd<|ae<|ao jg U Y4 U U<|aI Yb U<|ar Z7 U<|aa U<|z6<|zj<|y8 (γ:=Nat × Nat) [1,3,15,16] (fun g=>[(17,.int .i64 g.1)]) (fun g=>[(i13,.cells 109 (mx f g.2 (((aU f.vars.length).take g.1).foldl (dU f) ⟨[],[]⟩).l.length jp 0)),(g.2,.grow 3 145 ((((aU f.vars.length).take g.1).foldl (dU f) ⟨[],[]⟩).l.map bf).flatten),(jp,.grow 4 54 [])]) (fun g=>g.1≤f.vars.length∧KB f (((aU f.vars.length).take g.1).foldl (dU f) ⟨[],[]⟩)) (fun g=>f.vars.length - g.1) (0,jl) aH aD (⟨qn _,KB.emp f⟩) ?_
 rintro ⟨k,jq⟩ ⟨hk,hKB⟩
 try dsimp only at *
 refine ae<|ax U U<|z6<|zd<|zu U (fun ck=>?_) (fun ck=>?_)
 ·have hk2:k<f.vars.length:=by omega
  have hge:(aU f.vars.length)[k]?=some (k:Int):=by unfold aU;rw[qs,List.getElem?_range hk2];rfl
  have hstep:((aU f.vars.length).take (k+1)).foldl (dU f) ⟨[],[]⟩=dU f (((aU f.vars.length).take k).foldl (dU f) ⟨[],[]⟩) k:=by rw[List.take_add_one,hge,List.foldl_append];rfl
  obtain ⟨Q,hQ⟩:∃Q,((aU f.vars.length).take k).foldl (dU f) ⟨[],[]⟩=Q:=⟨_,rfl⟩
  obtain ⟨vr,hx⟩:∃vr,f.vars[k]?=some vr:=⟨_,qk hk2⟩
  have hkt:bp f (k:Int)=vr.ty:=by unfold bp;rw[Int.toNat_natCast,hx];rfl
  have hnk:aJ f (k:Int):=⟨by omega,by omega⟩
  have nn:aJ f (bQ f):=d5
  rw[hQ] at hKB hstep
  rw[hQ]
  have hKB2:=wv hKB hnk
  rw[←hstep] at hKB2
  refine zg<|zd<|zj<|ae<|aa U<|za (bh k Z7 Y1 U U U hx)<|ac isAgg61 Y1 U U<|y6 (cs:=[.str ⟨#[]⟩,.int .i64 0]) X7 U U<|fun i5=>ap U<|y1 Y1 U U U U U U .head U<|zf (yf (t:=5) U .head)<|z6<|ae<|ac ju jf U U<|aa U<|ze (jI f hf k) U<|bR U<|bJ U U<|bJ U U<|ap U<|ap U<|z6<|zj<|ae<|ao Zi U Yq U U<|ay X4 U<|ai U U<|ab U<|z6<|zu U (fun c2=>?_) (fun c2=>?_)
  ·have c2:vr.ty=2:=c2
   have hfi:dU f Q k=cQ (cQ Q k (bQ f) 64) (bQ f) k 0:=by unfold dU;rw[if_pos (hkt.trans c2)]
   refine ae<|aE U<|aa U<|aE U<|aw U<|za (zn jw U j6 (by decide) U U)<|za (zt (c:=.int _ _) j7 U ⟨_,.head⟩ U)<|zr U (zh (.l (.l (.l (.rest _))))) (add i13 jq jp Q hKB (k:Int) (bQ f) 64) ?_
   rintro r38 O38 ⟨j1,rfl,rfl,_⟩
   refine z6<|aO<|aE U<|aE U<|aw U<|za (zn jw U j6 (by decide) U U)<|za (zt (c:=.int _ _) j7 U ⟨_,.head⟩ U)<|aa U<|zr U (zh (.l (.l (.l (.rest _))))) (add i13 j1 jp _ (hKB.add hnk nn) (bQ f) (k:Int) 0) ?_
   rintro r45 O45 ⟨j2,rfl,rfl,_⟩
   refine z6<|aO<|aC U U<|aa U<|z6 ?_
   exact ⟨(k+1,j2),fl,aH,⟨_,(.refl _),by rw[hstep,hfi];rfl⟩,⟨hk2,hKB2⟩,by dsimp only;omega⟩
  ·have c2:¬vr.ty=2:=c2
   refine zd<|ya (γ:=Bool) [1,3,4,15,16,17] (fun u=>[(46,.bool u)]) (fun u=>[(i13,.cells 109 (mx f jq Q.l.length jp 0)),(jq,.grow 3 145 (Q.l.map bf).flatten),(jp,.grow 4 54 [])]) (fun u=>u=decide (vr.ty=0∧(f.params.length:Int)≤k∧(aL f k).1<0)) ?_ (fun _ _ h=>h) ?_
   ·refine aO<|ao Zi U Yq U U<|ay X4 U<|ai U U<|aj U<|zo (s:=50) U (fun c1=>?_) (fun c1=>?_)
    ·refine z8 U U c1<|aa U<|z8 U U c1<|ao jg U j8 U U<|z8 U U c1<|aI j9 U<|z8 U U c1<|ar wz U<|z8 U U c1<|za (yy U U)<|aq U c1 U<|aj U<|zo (s:=57) U (fun c2=>?_) (fun c2=>?_)
     ·refine z8 U U c2<|aa U<|z8 U U c2<|ax U U<|aq U c2 U<|ab U<|z6 ?_
      exact ⟨_,(by repeat (first|with_reducible exact zp _ _|refine zz rfl ?_|exact nu)),aH,aD,by simp_all<;>omega⟩
     ·refine z7 U U c2<|z7 U U c2<|au U c2 U<|ab U<|z6 ?_
      exact ⟨_,(by repeat (first|with_reducible exact zp _ _|refine zz rfl ?_|exact nu)),aH,aD,by simp_all<;>omega⟩
    ·refine z7 U U c1<|z7 U U c1<|z7 U U c1<|z7 U U c1<|z7 U U c1<|au U c1 U<|aj U<|z7 U U U<|z7 U U U<|au U U U<|ab U<|z6 ?_
     exact ⟨_,(by repeat (first|with_reducible exact zp _ _|refine zz rfl ?_|exact nu)),aH,aD,by simp_all<;>omega⟩
   ·rintro u hu
    refine zy U (fun cu=>?_) (fun cu=>?_)
    ·have cu:=w4 (hu▸cu)
     have hfi:dU f Q k=cQ (cQ Q k (bQ f) 0) (bQ f) k 0:=by unfold dU;rw[hkt,if_neg c2,if_pos cu];rfl
     refine ae<|aE U<|aa U<|aE U<|aw U<|za (zn jw U j6 (by decide) U U)<|za (zt (c:=.int _ _) j7 U ⟨_,.head⟩ U)<|zr U (zh (.l (.l (.l (.rest _))))) (add i13 jq jp Q hKB (k:Int) (bQ f) 0) ?_
     rintro r67 O67 ⟨j1,rfl,rfl,_⟩
     refine z6<|aO<|aE U<|aE U<|aw U<|za (zn jw U j6 (by decide) U U)<|za (zt (c:=.int _ _) j7 U ⟨_,.head⟩ U)<|aa U<|zr U (zh (.l (.l (.l (.rest _))))) (add i13 j1 jp _ (hKB.add hnk nn) (bQ f) (k:Int) 0) ?_
     rintro r74 O74 ⟨j2,rfl,rfl,_⟩
     refine z6<|aO<|aC U U<|aa U<|z6 ?_
     exact ⟨(k+1,j2),fl,aH,⟨_,(.refl _),by rw[hstep,hfi];rfl⟩,⟨hk2,hKB2⟩,by dsimp only;omega⟩
    ·have cu:=w5 (hu▸cu)
     have hfi:dU f Q k=Q:=by unfold dU;rw[hkt,if_neg c2,if_neg cu]
     refine zg<|aO<|aC U U<|aa U<|z6 ?_
     exact ⟨(k+1,jq),fl,aH,⟨_,(.refl _),by rw[hstep,hfi]⟩,⟨hk2,hKB2⟩,by dsimp only;omega⟩
 ·obtain rfl:k=f.vars.length:=by omega
  have hfin:((aU f.vars.length).take f.vars.length).foldl (dU f) ⟨[],[]⟩=cT f:=by unfold cT;rw[List.take_of_length_le (by rw[bA];omega)]
  rw[hfin]
  refine y7<|ae<|aE U<|za (gc U)<|z6<|zi<|zm (x:=.po _ _) U ?_
  exact ⟨(i13,jq,jp),rfl,⟨_,.refl _,rfl⟩,trivial⟩
end
end Go.Proofs.YtdilpodccjlkgaaGreatDoor
namespace Go.Proofs.YtdilpodccjlkgaaGreatDoor
open Go.Proofs.Tryz
open Go.Proofs Go.Lib Go.Shelf Go.RowKit
theorem Fm:cU prog 78 29 1 1 [.raw (.slice none 0 0)]:=⟨_,X1,sizeOf29,zeroValue29,by decide,by decide,by kernel_rfl⟩
variable {E:World}
set_option maxRecDepth 20000
def u7 (rows:List (List Bool)):List AV:=(rows.map fun r=>[AV.fro 1 (r.map nF)]).flatten
theorem Am (rows:List (List Bool)) (r:List Bool):u7 rows++[AV.fro 1 (r.map nF)]=u7 (rows++[r]):=by unfold u7;simp
theorem Cv (rows:List (List Bool)):(u7 rows).length=rows.length:=by unfold u7;induction rows with
 |nil=>rfl
 |cons r rows ih=>simp only[List.map_cons,List.flatten_cons,qq,ih,List.length_cons,List.length_nil];omega
def DY (rows:List (List Bool)):AV:=.fro 1 (rows.map fun r=>[AV.fro 1 (r.map nF)])
set_option maxHeartbeats 4000000 in
theorem qM (f:ad) (hE:bV f) (hn:f.blocks.length≤1000):aK prog E 22 [.agg (bD f)] (DY (ml f)):=by
 have hG:=hE.grph
 refine zq func22 U (by decide) U<|ae<|y9 (cs:=_) U U U<|bF U<|z6<|ae<|ac ju jf U U<|ze (gr f hE hn (-1)) U<|za (kO U)<|z6<|ae<|bF U<|z6<|zd<|ae<|ao jg U Z6 U U<|aI Zd U<|ar jk U<|aa U<|z6<|fo (t:=4) (k:=1) (T:=29) U<|fun i4=>zj<|y8 (γ:=Nat × Nat) [1,3,13] (fun g=>[(14,.int .i64 g.1),(4,.own g.2 g.1)]) (fun g=>[(g.2,.grow 1 29 (u7 ((ml f).take g.1)))]) (fun g=>g.1≤f.blocks.length) (fun g=>f.blocks.length - g.1) (0,i4) cV aD (qn _) ?_
 rintro ⟨k,io⟩ hk
 try dsimp only at *
 refine ae<|ax U U<|z6<|zd<|zu U (fun ck=>?_) (fun ck=>?_)
 ·have hk2:k<f.blocks.length:=by simp at ck;omega
  have hgk:=ph (ah f) hk2 (-1)
  refine zg<|zd<|zj<|ae<|aa U<|ap U<|z6<|ae<|ao jg U Z6 U U<|aI Zd U<|ar jk U<|az.makeB (m:=f.blocks.length) jx type4 U U U U U (by simp) (by simp) (by show (1:Int)*_≤_;omega) (by omega)<|fun i20=>za (gZ U)<|z6<|zd<|ae<|aT U<|aa U<|za (bh k jx Zc U U U hgk)<|za (yn (c:=.bool _) Y7 U)<|z6<|ya (γ:=Nat) [1,3,4,13,14] (fun q=>[(6,.own q f.blocks.length)]) (fun q=>[(q,.grow 1 4 (cB (mV f k))),(io,.grow 1 29 (u7 ((ml f).take k)))]) (fun q=>True) ?_ (fun _ _ h=>h) ?_
  ·refine zy U (fun cr=>?_) (fun cr=>?_)
   ·have hra:gb (ej (ah f) f.blocks.length (-1)) (k:Int)=true:=cr
    refine ae<|ac ju jf U U<|aa U<|ze (gr f hE hn (k:Int)) U<|za (kO U)<|z6<|ae<|bz U<|za (Gv.lenO jx U)<|aa U<|z6<|zj<|y8 (γ:=Nat) [1,3,4,5,6,7,13,14,29] (fun j=>[(30,.int .i64 j)]) (fun j=>[(i20,.grow 1 4 (cB (jT f k j))),(io,.grow 1 29 (u7 ((ml f).take k)))]) (fun j=>j≤f.blocks.length) (fun j=>f.blocks.length - j) 0 aH ⟨_,(.refl _),by rw[←pj]⟩ (qn _) ?_
    rintro j hj
    refine ae<|ax U U<|z6<|zd<|zu U (fun cj=>?_) (fun cj=>?_)
    ·have hj2:j<f.blocks.length:=by simp at cj;omega
     have hgj:=ph (ah f) hj2 (-1)
     have hgl:=ph (ah f) hj2 (k:Int)
     have hcell:=BF hG hk2 hj2 hra
     refine zg<|zd<|zj<|ae<|aa U<|ap U<|z6<|aO<|bz U<|aa U<|aT U<|aa U<|za (bh j jx Zc U U U hgj)<|za (yn (c:=.bool _) Y7 U)<|aj U<|zo (s:=39) U (fun c1=>?_) (fun c1=>?_)
     ·have d1:gb (ej (ah f) f.blocks.length (-1)) (j:Int)=true:=c1
      refine z8 U U c1<|aa U<|z8 U U c1<|aa U<|z8 U U c1<|ai U U<|z8 U U c1<|aj U<|zo (s:=43) U (fun c2=>?_) (fun c2=>?_)
      ·refine z7 U U c2<|z7 U U c2<|z7 U U c2<|z7 U U c2<|z7 U U c2<|z8 U U c1<|aq U c2 U<|aq U c1 U<|za (yp (j:=j) jx Zc U U U ⟨_,.head⟩ (by rw[aW,gv]) hj2)<|qg (j:=j) Zc U U .head (by rw[gv];exact hj2)<|z6<|aO<|aC U U<|aa U<|z6 ?_
       exact ⟨j+1,n8,aH,⟨_,(.refl _),by rw[←lL,←hcell,d1,show decide ((k:Int)=(j:Int))=true from c2];rfl⟩,hj2,by omega⟩
      ·refine z8 U U c2<|aT U<|z8 U U c2<|aa U<|z8 U U c2<|za (bh j jx Zc U U U hgl)<|z8 U U c2<|za (yn (c:=.bool _) Y7 U)<|z8 U U c2<|aB U<|z8 U U c1<|au U c2 U<|aq U c1 U<|za (yp (j:=j) jx Zc U U U ⟨_,.head⟩ (by rw[aW,gv]) hj2)<|qg (j:=j) Zc U U .head (by rw[gv];exact hj2)<|z6<|aO<|aC U U<|aa U<|z6 ?_
       exact ⟨j+1,n8,aH,⟨_,(.refl _),by rw[←lL,←hcell,d1,show decide ((k:Int)=(j:Int))=false from c2];rfl⟩,hj2,by omega⟩
     ·have d1:gb (ej (ah f) f.blocks.length (-1)) (j:Int)=false:=c1
      refine z7 U U c1<|z7 U U c1<|z7 U U c1<|z7 U U c1<|zk U U<|zk U U<|zk U U<|zk U U<|zk U U<|z7 U U c1<|au U c1 U<|za (yp (j:=j) jx Zc U U U ⟨_,.head⟩ (by rw[aW,gv]) hj2)<|qg (j:=j) Zc U U .head (by rw[gv];exact hj2)<|z6<|aO<|aC U U<|aa U<|z6 ?_
      exact ⟨j+1,n8,aH,⟨_,(.refl _),by rw[←lL,←hcell,d1];rfl⟩,hj2,by omega⟩
    ·have hjn:j=f.blocks.length:=by simp at cj;omega
     refine y7 ?_
     exact ⟨i20,iO,aH,⟨_,(.refl _),by rw[hjn,zL]⟩,trivial⟩
   ·have hra:gb (ej (ah f) f.blocks.length (-1)) (k:Int)=false:=cr
    refine zg ?_
    exact ⟨i20,iO,aH,⟨_,(.refl _),by rw[←BH hG hk2 hra,←pj]⟩,trivial⟩
  ·rintro q _
   refine y3 (aX.knowB (t:=6) U .head (BI _ _))<|aO<|bz U<|aT U<|y4 (rows:=[[_]]) Fm U U U U U<|yj (k:=1) X1 type29 U U U U U (fun _=>.head) (by rw[Cv,List.length_take,gO];omega) (by decide) U (by show (_+1)*24≤_;omega) (by show _+1≤_;omega)<|fun i56=>za (gZ U)<|z6<|aO<|aC U U<|aa U<|z6 ?_
   exact ⟨(k+1,i56),de,cV,⟨_,(.refl _),by rw[zM hk2,←Am];rfl⟩,hk2,by dsimp only;omega⟩
 ·have hkn:k=f.blocks.length:=by simp at ck;omega
  subst hkn
  rw[show f.blocks.length=(ml f).length from (gO f).symm,qp,gO]
  refine y7<|ae<|bz U<|za (gZ U)<|z6<|zi ?_
  repeat (first|refine fM ?_|refine ez ?_)
  refine ye (aX.know (t:=2) (rows:=(ml f).map fun r=>[AV.fro 1 (r.map nF)]) U .head (by (intro r hr;obtain ⟨x,_,rfl⟩:=List.mem_map.1 hr;rfl)) (by decide) (by (rw[qr];exact gO f)))<|zm (x:=.fro _ _) U ?_
  rfl
end Go.Proofs.YtdilpodccjlkgaaGreatDoor
