/- What the document knows at the beginning of a block. Of single programs that are little. -/
import Derived.Test.YtbbonnfjealmpaaGreatDoorZv
import Derived.Test.YtbbonnfjealmpaaGreatDoorZn
import Derived.Test.YtbbonnfjealmpaaGreatDoorZs
set_option linter.unusedVariables false
set_option linter.unusedSimpArgs false
set_option linter.unusedSectionVars false
namespace Go.Proofs.YtbbonnfjealmpaaGreatDoor
section
open Go.Proofs.Tryz
open Go.Proofs Go.Lib Go.Shelf Go.RowKit
theorem D8:em prog 80 #[(0,1),(1,1),(2,1)] [.int .i64 0,.int .i64 0,.int .i64 0]:=⟨_,_,Yv,zeroValue80,fun w=>by kernel_rfl,rfl⟩
theorem Kx:dn prog 77 80 1 3 [.int .i64 0,.int .i64 0,.int .i64 0]:=⟨_,underlying77,Xd,zeroValue80,by decide,by decide,by kernel_rfl⟩
variable {E:World}
set_option maxRecDepth 20000
def k8 (k:D4):Int:=2*k.1+if k.2=true then 1 else 0
theorem GV {a b:D4} (h:k8 a=k8 b):a=b:=by
 obtain ⟨a1,a2⟩:=a
 obtain ⟨b1,b2⟩:=b
 unfold k8 at h
 cases a2<;>cases b2<;>simp at h
 ·rw[show a1=b1 by omega]
 ·omega
 ·omega
 ·rw[show a1=b1 by omega]
def GW (iq js jo:Nat) (q:ia):OL:=[(iq,.cells 162 [.own js q.seen.length,.own jo q.out.length]),(js,.grow 1 3 (cI (q.seen.map k8))),(jo,.grow 3 80 (q.out.map jG).flatten)]
def Ky (E:World) (f:ab) (iq:Nat) (n:Nat):Prop:=∀(q:ia) (js jo:Nat) (c:Int) (is:Bool),bt f c=true→Cs f c<n→mh f q →
 bn prog E 89 [.po iq 0,.agg (bw f),.int .i64 c,.bool is] (GW iq js jo q) (fun y O=>∃g:Nat × Nat,y=.tup []∧O=GW iq g.1 g.2 (gv f n q c is)∧True)
theorem mh.slen {f:ab} {q:ia} (h:mh f q):q.seen.length≤2*f.vars.length:=by
 have:=(mh.mk (f:=f) (q:=⟨q.seen,List.replicate q.seen.length ⟨0,0,0⟩⟩) h.nod h.rng (by simp)).len
 simpa using this
def LR (q:ia) (r:sH):ia:=if 0≤r.n then ft q r.a r.b r.n else q
set_option maxHeartbeats 16000000 in
theorem D9 (f:ab) (hf:small f) (hR:bm f) (hv:f.vars.length≤1000) (iq n:Nat) (ih:Ky E f iq n):Ky E f iq (n+1):=by
 intro q js jo c is hc hrk hA
 have hsl:=hA.slen
 have hol:=hA.len
 have hcr:0≤c∧c<f.vars.length:=by simpa [bt] using hc
 obtain ⟨c0,hc0⟩:=Int.eq_ofNat_of_zero_le hcr.1
 refine bn.exact (γ:=Nat × Nat) (x:=fun _=>.tup []) (M:=fun g=>GW iq g.1 g.2 (gv f (n+1) q c is)) (p:=fun _=>True) ?_
 have hM:=fun h=>pE (E:=E) f hf c0 h
 have hM2:=fun y h=>pF (E:=E) f hf c0 (x:=y) h
 rw[←hc0] at hM hM2
 have ih:=fun q js jo c is h1 h2 h3=>ih q js jo c is h1 h2 h3
 have hki:∀s:D4,k8 s=k8 (c,is)→s=(c,is):=fun s h=>GV h
 unfold GW at ih ⊢
 refine zp func89 U (by decide) U<|ae<|y6 (cs:=_) U U U<|z2<|ae<|aa U<|z8 (Gv.mul U U (by unfold lz;omega))<|am U<|z2<|zb<|ae<|aq U<|z2<|yb (γ:=Int) [0,2,3,5] (fun key=>[(8,.i key)]) (fun key=>[(iq,.cells 162 [.own js q.seen.length,.own jo q.out.length]),(js,.grow 1 3 (cI (q.seen.map k8))),(jo,.grow 3 80 (q.out.map jG).flatten)]) (fun key=>key=k8 (c,is)) ?_ (fun _ _ h=>h) ?_
 ·refine zw U (fun ci=>?_) (fun ci=>?_)
  ·have ci:is=true:=ci
   refine aW<|aa U<|aC U U<|am U<|z2 ?_
   exact ⟨_,(by repeat (first|with_reducible exact yh _ _|refine yu rfl ?_|exact fC)),aL,aE,by unfold k8;rw[ci];simp⟩
  ·have ci:is=false:=ci
   refine zf ?_
   exact ⟨_,(by repeat (first|with_reducible exact yh _ _|refine yu rfl ?_|exact fC)),aL,aE,by unfold k8;rw[ci];simp⟩
 ·rintro key hkey
  refine zb<|ae<|bb U<|ax U<|z8 (zh X7 U jh (by decide) U U)<|z8 (zq (c:=.own _ _) jx U ⟨_,.head⟩ U)<|z8 (qp j7 U)<|aa U<|z2<|zi<|y5 (γ:=Nat) [0,2,3,5,8,21,22] (fun k=>[(23,.i k)]) (fun k=>[(iq,.cells 162 [.own js q.seen.length,.own jo q.out.length]),(js,.grow 1 3 (cI (q.seen.map k8))),(jo,.grow 3 80 (q.out.map jG).flatten)]) (fun k=>k≤q.seen.length∧(q.seen.take k).any (fun s=>decide (k8 s=key))=false) (fun k=>q.seen.length - k) 0 aL aE (⟨w2 _,U⟩) ?_
  rintro k ⟨hk,hall⟩
  refine ae<|ap U U<|z2<|zb<|zn U (fun ck=>?_) (fun ck=>?_)
  ·have hk2:k<q.seen.length:=by omega
   obtain ⟨s,hs⟩:∃s,q.seen[k]=s:=⟨_,rfl⟩
   have hsg:q.seen[k]?=some s:=by rw[qx hk2,hs]
   have hsu:(q.seen.take (k+1)).any (fun s=>decide (k8 s=key))=decide (k8 s=key):=by
    rw[List.take_add_one,hsg,List.any_append,hall];simp
   refine zf<|zb<|zi<|ae<|z8 (yd (j:=k) j7 j9 U U U ⟨_,.t1⟩ (by rw[aF,w6]) hk2)<|z8 (yw (j:=k) jg U ⟨_,.t1⟩ (show (q.seen.map k8)[k]?=some (k8 s) by rw[w7,hsg];rfl))<|am U<|z2<|ae<|aa U<|aa U<|ao U U<|z2<|zn U (fun cc=>?_) (fun cc=>?_)
   ·have hmem:q.seen.contains (c,is)=true:=by
     rw[List.contains_iff_mem,←hki s (cc.trans hkey)]
     exact w9 hsg
    have hQ:gv f (n+1) q c is=q:=by unfold gv;rw[if_pos hmem]
    refine zg<|yy ?_
    exact ⟨(js,jo),rfl,⟨_,.refl _,by rw[hQ]⟩,trivial⟩
   ·refine zf<|aW<|aC U U<|aa U<|z2 ?_
    exact ⟨k+1,lg,aL,aE,⟨hk2,by rw[hsu];exact wg cc⟩,by omega⟩
  ·obtain rfl:k=q.seen.length:=by omega
   have hnm:q.seen.contains (c,is)=false:=by
    cases e:q.seen.contains (c,is) with
    |false=>rfl
    |true=>
     rw[w4] at hall
     have:=List.any_eq_false.1 hall _ (List.contains_iff_mem.1 e)
     simp[hkey] at this
   have hQ:gv f (n+1) q c is=match eg f c with
     |none=>⟨q.seen++[(c,is)],q.out⟩
     |some x=>
      if x.op=10 then gv f n ⟨q.seen++[(c,is)],q.out⟩ (dq x) (!is)
      else if x.op=1 then gv f n ⟨q.seen++[(c,is)],q.out⟩ (dq x) is
      else if x.op=11 then (if is=true then gv f n (gv f n ⟨q.seen++[(c,is)],q.out⟩ (dq x) true) (eU x) true else ⟨q.seen++[(c,is)],q.out⟩)
      else if x.op=8 then (if is=true then ft ⟨q.seen++[(c,is)],q.out⟩ (dq x) (eU x) 0 else ft ⟨q.seen++[(c,is)],q.out⟩ (eU x) (dq x) 1)
      else if x.op=9 then (if is=true then ft ⟨q.seen++[(c,is)],q.out⟩ (dq x) (eU x) 1 else ft ⟨q.seen++[(c,is)],q.out⟩ (eU x) (dq x) 0)
      else if x.op=7 then (if is=true then ft ⟨q.seen++[(c,is)],q.out⟩ (dq x) (eU x) 2 else ⟨q.seen++[(c,is)],q.out⟩)
      else ⟨q.seen++[(c,is)],q.out⟩:=by
    conv=>lhs;unfold gv
    rw[if_neg (by rw[hnm];decide)]
    rfl
   have hQG:=mW hR (n+1) q c is hA hc
   obtain ⟨Z,hZ⟩:∃Z,gv f (n+1) q c is=Z:=⟨_,rfl⟩
   rw[hZ] at hQ hQG ⊢
   obtain ⟨hA1,hA2⟩:=hA.push hnm hc
   obtain ⟨q1,hq1⟩:∃q1:ia,(⟨q.seen++[(c,is)],q.out⟩:ia)=q1:=⟨_,rfl⟩
   rw[hq1] at hQ hA1
   rw[hq1] at hA2
   have hqs:q1.seen=q.seen++[(c,is)]:=by rw[←hq1]
   have hqo:q1.out=q.out:=by rw[←hq1]
   refine y4<|ae<|bb U<|bb U<|ax U<|z8 (zh X7 U jh (by decide) U U)<|z8 (zq (c:=.own _ _) jx U ⟨_,.head⟩ U)<|aa U<|zx (rows:=[[_]]) cA U U U U U<|yg (k:=1) j7 Y5 U U U U U (fun _=>.t1) (by rw[aF,w6];omega) (by decide) U (by show (_+_)*8≤_;simp<;>omega) (by simp<;>omega)<|fun i38=>ax U<|z8 (zh X7 U jh (by decide) U U)<|yn (l:=[_]) (new:=[_,_]) jh U U U U U U .head U U<|z2<|y7 (za (zc .t2))<|y7 (za (zc .t2))<|y7 (za (zc .t2))<|y7 (aR.eq (show _=([(iq,.cells 162 [.own i38 q1.seen.length,.own jo q1.out.length]),(i38,.grow 1 3 (cI (q1.seen.map k8))),(jo,.grow 3 80 (q1.out.map jG).flatten)]:OL) from (by rw[hqs,hqo,hkey,w5,wb,←kK];rfl))) ?_
   rcases hm:eg f c with _|x
   ·rw[hm] at hQ
    dsimp only at hQ
    refine ae<|ac Z0 ji U U<|aa U<|ze (hM hm) U<|zu (cs:=[.int .i64 0,.int .i64 0,.n,.int .i64 0]) Zr U U<|fun i11=>zj Za U U U U U U .head U<|zd (y8 (t:=11) U .head)<|z2<|zb<|ae<|ak jd U j9 U U<|aA jg U<|ap U U<|z2<|yr U U<|zg<|yy ?_
    exact ⟨(i38,jo),rfl,⟨_,.refl _,by rw[hQ]⟩,trivial⟩
   ·rw[hm] at hQ
    dsimp only at hQ
    obtain ⟨hF,_,_⟩:=hR.madeF hm
    have hdst:=zK hm
    have a0:∀{k:Int},x.op=k→0<([0,1,2,2,2,2,2,2,2,2,1,2,1,2,3,1,0,1,2,1,1,2,2,2,1,2,2][k.toNat]?).getD 0→(bt f (dq x)=true∧Cs f (dq x)<n)∧0<x.args.length:=fun e h=>by
     have hl:0<x.args.length:=by rw[hF.cnt e];exact h
     have:=hR.rk0 hm hl
     exact ⟨⟨GT (hF.a0 hl),by omega⟩,hl⟩
    have a1:∀{k:Int},x.op=k→1<([0,1,2,2,2,2,2,2,2,2,1,2,1,2,3,1,0,1,2,1,1,2,2,2,1,2,2][k.toNat]?).getD 0→(bt f (eU x)=true∧Cs f (eU x)<n)∧1<x.args.length:=fun e h=>by
     have hl:1<x.args.length:=by rw[hF.cnt e];exact h
     have:=hR.rk1 hm hl
     exact ⟨⟨GT (hF.a1 hl),by omega⟩,hl⟩
    refine ae<|ac Z0 ji U U<|aa U<|ze (hM2 x hm) U<|zu (cs:=[.int .i64 0,.int .i64 0,.n,.int .i64 0]) Zr U U<|fun i11=>zj Za U U U U U U .head U<|zd (y8 (t:=11) U .head)<|z2<|zb<|ae<|ak jd U j9 U U<|aA jg U<|ap U U<|z2<|yq U (wg (by rw[hdst];omega))<|zf<|ae<|z8 (zz (cps:=[(2,[_])]) (rs:=[.int .i64 0,.int .i64 0,_]) D8 U U U)<|zu (cs:=[.int .i64 0,.int .i64 0,.int .i64 0]) zeroValue80 U U<|fun i12=>zj Xd U U U U U U .head U<|z2<|zb<|ae<|ak jd U Zs U U<|aA Y2 U<|z2<|y7 (za (zc .t3))<|y7 (za (zc .t3))<|y7 (za (zc .t3))<|yb (γ:=(ia × Nat × Nat) × sH) [0,12] (fun g=>[]) (fun g=>[(iq,.cells 162 [.own g.1.2.1 g.1.1.seen.length,.own g.1.2.2 g.1.1.out.length]),(g.1.2.1,.grow 1 3 (cI (g.1.1.seen.map k8))),(g.1.2.2,.grow 3 80 (g.1.1.out.map jG).flatten),(i12,.cells 80 [.int .i64 g.2.a,.int .i64 g.2.b,.int .i64 g.2.n])]) (fun g=>mh f g.1.1∧Z=LR g.1.1 g.2) ?_ (fun _ _ h=>h) ?_
    ·refine zi<|ae<|ao U U<|ad U<|z2<|zn U (fun c10=>?_) (fun c10=>?_)
     ·have c10:x.op=10:=c10
      obtain ⟨⟨h1,h2⟩,h3⟩:=a0 c10 (by decide)
      rw[if_pos c10] at hQ
      refine zr (fun j=>false) (by kernel_rfl) U (zo (.rest _))<|ai 0 U (dR U)<|ai 1 U (yp Z0 ji U U)<|ai 2 U (db jd U jh U U)<|ai 3 U (gd jx U)<|ai 4 U (bB 0 j7 j9 U U U (jX h3))<|ai 5 U (dQ jg U)<|ai 6 U (zX U)<|ai 7 U (Gv.not U)<|aN 8 U<|y3 U (zo (.l (.l (.l (.r (.rest _)))))) (ih q1 i38 jo (dq x) (!is) h1 h2 hA1) ?_
      rintro r60 O60 ⟨⟨j1,j2⟩,rfl,rfl,_⟩
      refine z2<|bI ?_
      exact ⟨((gv f n q1 (dq x) (!is),j1,j2),⟨0,0,-1⟩),(by repeat (first|with_reducible exact yh _ _|refine yu rfl ?_|exact b7)),trivial,aE,⟨mW hR n _ _ _ hA1 h1,hQ⟩⟩
     ·have c10:¬x.op=10:=c10
      rw[if_neg c10] at hQ
      refine ae<|ao U U<|ad U<|z2<|zn U (fun c1=>?_) (fun c1=>?_)
      ·have c1:x.op=1:=c1
       obtain ⟨⟨h1,h2⟩,h3⟩:=a0 c1 (by decide)
       rw[if_pos c1] at hQ
       refine zr (fun j=>false) (by kernel_rfl) U (zo (.rest _))<|ai 0 U (dR U)<|ai 1 U (yp Z0 ji U U)<|ai 2 U (db jd U jh U U)<|ai 3 U (gd jx U)<|ai 4 U (bB 0 j7 j9 U U U (jX h3))<|ai 5 U (dQ jg U)<|ai 6 U (zX U)<|aN 7 U<|y3 U (zo (.l (.l (.l (.r (.rest _)))))) (ih q1 i38 jo (dq x) is h1 h2 hA1) ?_
       rintro r70 O70 ⟨⟨j1,j2⟩,rfl,rfl,_⟩
       refine z2<|bI ?_
       exact ⟨((gv f n q1 (dq x) is,j1,j2),⟨0,0,-1⟩),(by repeat (first|with_reducible exact yh _ _|refine yu rfl ?_|exact b7)),trivial,aE,⟨mW hR n _ _ _ hA1 h1,hQ⟩⟩
      ·have c1:¬x.op=1:=c1
       rw[if_neg c1] at hQ
       refine ae<|ao U U<|ad U<|z2<|zn U (fun c11=>?_) (fun c11=>?_)
       ·have c11:x.op=11:=c11
        obtain ⟨⟨h1,h2⟩,h3⟩:=a0 c11 (by decide)
        obtain ⟨⟨g1,g2⟩,g3⟩:=a1 c11 (by decide)
        rw[if_pos c11] at hQ
        refine ae<|aq U<|z2<|zw U (fun ci=>?_) (fun ci=>?_)
        ·have ci:is=true:=ci
         rw[if_pos ci] at hQ
         subst ci
         have hB1:=mW hR n _ _ true hA1 h1
         refine zb<|zr (fun j=>false) (by kernel_rfl) U (zo (.rest _))<|ai 0 U (dR U)<|ai 1 U (yp Z0 ji U U)<|ai 2 U (db jd U jh U U)<|ai 3 U (gd jx U)<|ai 4 U (bB 0 j7 j9 U U U (jX h3))<|ai 5 U (dQ jg U)<|ai 6 U (zX U)<|aN 7 U<|y3 U (zo (.l (.l (.l (.r (.rest _)))))) (ih q1 i38 jo (dq x) true h1 h2 hA1) ?_
         rintro r81 O81 ⟨⟨j1,j2⟩,rfl,rfl,_⟩
         refine z2<|bI<|zr (fun j=>false) (by kernel_rfl) U (zo (.rest _))<|ai 0 U (dR U)<|ai 1 U (yp Z0 ji U U)<|ai 2 U (db jd U jh U U)<|ai 3 U (gd jx U)<|ai 4 U (bB 1 j7 j9 U U U (mG g3))<|ai 5 U (dQ jg U)<|ai 6 U (zX U)<|aN 7 U<|y3 U (zo (.l (.l (.l (.r (.rest _)))))) (ih _ j1 j2 (eU x) true g1 g2 hB1) ?_
         rintro r89 O89 ⟨⟨j3,j4⟩,rfl,rfl,_⟩
         refine z2<|bI ?_
         exact ⟨((_,j3,j4),⟨0,0,-1⟩),(by repeat (first|with_reducible exact yh _ _|refine yu rfl ?_|exact b7)),trivial,aE,⟨mW hR n _ _ _ hB1 g1,hQ⟩⟩
        ·have ci:¬is=true:=by rw[show is=false from ci];decide
         rw[if_neg ci] at hQ
         refine zf ?_
         exact ⟨((q1,i38,jo),⟨0,0,-1⟩),(by repeat (first|with_reducible exact yh _ _|refine yu rfl ?_|exact b7)),trivial,aE,⟨hA1,hQ⟩⟩
       ·have c11:¬x.op=11:=c11
        rw[if_neg c11] at hQ
        refine ae<|ao U U<|ad U<|z2<|zn U (fun c8=>?_) (fun c8=>?_)
        ·have c8:x.op=8:=c8
         obtain ⟨_,h3⟩:=a0 c8 (by decide)
         obtain ⟨_,g3⟩:=a1 c8 (by decide)
         rw[if_pos c8] at hQ
         refine zb<|zr (fun j=>Nat.beq j 9) (by kernel_rfl) U (zo (.rest _))<|ai 0 U (db jd U jh U U)<|ai 1 U (gd jx U)<|ai 2 U (bB 0 j7 j9 U U U (jX h3))<|ai 3 U (dQ jg U)<|ai 4 U (db jd U jh U U)<|ai 5 U (gd jx U)<|ai 6 U (bB 1 j7 j9 U U U (mG g3))<|ai 7 U (dQ jg U)<|ai 8 U (zz (cps:=[(0,[_]),(1,[_]),(2,[_])]) (rs:=[_,_,_]) D8 U U U)<|yc<|yk (i:=9) U (by kernel_rfl) (by kernel_rfl)<|zj Xd U U U U U U .t3 U<|z2<|yf (by kernel_rfl)<|ae<|aq U<|aJ U<|z2<|zw U (fun ci=>?_) (fun ci=>?_)
         ·have ci:is=false:=by simpa using ci
          rw[if_neg (show ¬is=true by rw[ci];decide)] at hQ
          refine zr (fun j=>Nat.beq j 9) (by kernel_rfl) U (zo (.rest _))<|ai 0 U (db jd U jh U U)<|ai 1 U (gd jx U)<|ai 2 U (bB 1 j7 j9 U U U (mG g3))<|ai 3 U (dQ jg U)<|ai 4 U (db jd U jh U U)<|ai 5 U (gd jx U)<|ai 6 U (bB 0 j7 j9 U U U (jX h3))<|ai 7 U (dQ jg U)<|ai 8 U (zz (cps:=[(0,[_]),(1,[_]),(2,[_])]) (rs:=[_,_,_]) D8 U U U)<|yc<|yk (i:=9) U (by kernel_rfl) (by kernel_rfl)<|zj Xd U U U U U U .t3 U<|z2<|yf (by kernel_rfl) ?_
          exact ⟨((q1,i38,jo),⟨eU x,dq x,1⟩),(by repeat (first|with_reducible exact yh _ _|refine yu rfl ?_|exact b7)),trivial,aE,⟨hA1,hQ⟩⟩
         ·have ci:is=true:=by simpa using ci
          rw[if_pos ci] at hQ
          refine zf ?_
          exact ⟨((q1,i38,jo),⟨dq x,eU x,0⟩),(by repeat (first|with_reducible exact yh _ _|refine yu rfl ?_|exact b7)),trivial,aE,⟨hA1,hQ⟩⟩
        ·have c8:¬x.op=8:=c8
         rw[if_neg c8] at hQ
         refine ae<|ao U U<|ad U<|z2<|zn U (fun c9=>?_) (fun c9=>?_)
         ·have c9:x.op=9:=c9
          obtain ⟨_,h3⟩:=a0 c9 (by decide)
          obtain ⟨_,g3⟩:=a1 c9 (by decide)
          rw[if_pos c9] at hQ
          refine zb<|zr (fun j=>Nat.beq j 9) (by kernel_rfl) U (zo (.rest _))<|ai 0 U (db jd U jh U U)<|ai 1 U (gd jx U)<|ai 2 U (bB 0 j7 j9 U U U (jX h3))<|ai 3 U (dQ jg U)<|ai 4 U (db jd U jh U U)<|ai 5 U (gd jx U)<|ai 6 U (bB 1 j7 j9 U U U (mG g3))<|ai 7 U (dQ jg U)<|ai 8 U (zz (cps:=[(0,[_]),(1,[_]),(2,[_])]) (rs:=[_,_,_]) D8 U U U)<|yc<|yk (i:=9) U (by kernel_rfl) (by kernel_rfl)<|zj Xd U U U U U U .t3 U<|z2<|yf (by kernel_rfl)<|ae<|aq U<|aJ U<|z2<|zw U (fun ci=>?_) (fun ci=>?_)
          ·have ci:is=false:=by simpa using ci
           rw[if_neg (show ¬is=true by rw[ci];decide)] at hQ
           refine zr (fun j=>Nat.beq j 9) (by kernel_rfl) U (zo (.rest _))<|ai 0 U (db jd U jh U U)<|ai 1 U (gd jx U)<|ai 2 U (bB 1 j7 j9 U U U (mG g3))<|ai 3 U (dQ jg U)<|ai 4 U (db jd U jh U U)<|ai 5 U (gd jx U)<|ai 6 U (bB 0 j7 j9 U U U (jX h3))<|ai 7 U (dQ jg U)<|ai 8 U (zz (cps:=[(0,[_]),(1,[_]),(2,[_])]) (rs:=[_,_,_]) D8 U U U)<|yc<|yk (i:=9) U (by kernel_rfl) (by kernel_rfl)<|zj Xd U U U U U U .t3 U<|z2<|yf (by kernel_rfl) ?_
           exact ⟨((q1,i38,jo),⟨eU x,dq x,0⟩),(by repeat (first|with_reducible exact yh _ _|refine yu rfl ?_|exact b7)),trivial,aE,⟨hA1,hQ⟩⟩
          ·have ci:is=true:=by simpa using ci
           rw[if_pos ci] at hQ
           refine zf ?_
           exact ⟨((q1,i38,jo),⟨dq x,eU x,1⟩),(by repeat (first|with_reducible exact yh _ _|refine yu rfl ?_|exact b7)),trivial,aE,⟨hA1,hQ⟩⟩
         ·have c9:¬x.op=9:=c9
          rw[if_neg c9] at hQ
          refine ae<|ao U U<|ad U<|z2<|zn U (fun c7=>?_) (fun c7=>?_)
          ·have c7:x.op=7:=c7
           obtain ⟨_,h3⟩:=a0 c7 (by decide)
           obtain ⟨_,g3⟩:=a1 c7 (by decide)
           rw[if_pos c7] at hQ
           refine ae<|aq U<|z2<|zw U (fun ci=>?_) (fun ci=>?_)
           ·have ci:is=true:=ci
            rw[if_pos ci] at hQ
            refine zr (fun j=>Nat.beq j 9) (by kernel_rfl) U (zo (.rest _))<|ai 0 U (db jd U jh U U)<|ai 1 U (gd jx U)<|ai 2 U (bB 0 j7 j9 U U U (jX h3))<|ai 3 U (dQ jg U)<|ai 4 U (db jd U jh U U)<|ai 5 U (gd jx U)<|ai 6 U (bB 1 j7 j9 U U U (mG g3))<|ai 7 U (dQ jg U)<|ai 8 U (zz (cps:=[(0,[_]),(1,[_]),(2,[_])]) (rs:=[_,_,_]) D8 U U U)<|yc<|yk (i:=9) U (by kernel_rfl) (by kernel_rfl)<|zj Xd U U U U U U .t3 U<|z2<|yf (by kernel_rfl) ?_
            exact ⟨((q1,i38,jo),⟨dq x,eU x,2⟩),(by repeat (first|with_reducible exact yh _ _|refine yu rfl ?_|exact b7)),trivial,aE,⟨hA1,hQ⟩⟩
           ·have ci:¬is=true:=by rw[show is=false from ci];decide
            rw[if_neg ci] at hQ
            refine zf ?_
            exact ⟨((q1,i38,jo),⟨0,0,-1⟩),(by repeat (first|with_reducible exact yh _ _|refine yu rfl ?_|exact b7)),trivial,aE,⟨hA1,hQ⟩⟩
          ·have c7:¬x.op=7:=c7
           rw[if_neg c7] at hQ
           refine zf ?_
           exact ⟨((q1,i38,jo),⟨0,0,-1⟩),(by repeat (first|with_reducible exact yh _ _|refine yu rfl ?_|exact b7)),trivial,aE,⟨hA1,hQ⟩⟩
    ·rintro ⟨⟨q2,js2,jo2⟩,⟨ra,rb,rn⟩⟩ ⟨hG2,hZ2⟩
     dsimp only at hG2 hZ2 ⊢
     have hol2:=hG2.len
     have hrf:=GR q2.out
     unfold LR at hZ2
     dsimp only at hZ2
     refine zb<|yb (γ:=Bool) [0,12] (fun u=>[(155,.bool u)]) (fun u=>[(iq,.cells 162 [.own js2 q2.seen.length,.own jo2 q2.out.length]),(js2,.grow 1 3 (cI (q2.seen.map k8))),(jo2,.grow 3 80 (q2.out.map jG).flatten),(i12,.cells 80 [.int .i64 ra,.int .i64 rb,.int .i64 rn])]) (fun u=>u=decide (0≤rn∧¬ra=rb)) ?_ (fun _ _ h=>h) ?_
     ·clear hQ hZ2 ih hM hM2 hG2 hQG hA1 hA2 a0 a1 hki hall hR hA hf hF
      refine aW<|z8 (zh Yv U Z1 (by decide) U U)<|z8 (zq (c:=.int _ _) Zc U ⟨_,.t3⟩ U)<|z8 (q9 U U)<|aq U<|zt (s:=149) U (fun c1=>?_) (fun c1=>?_)
      ·refine z7 U U c1<|z8 (zh Yv U j9 (by decide) U U)<|z7 U U c1<|z8 (zq (c:=.int _ _) jg U ⟨_,.t3⟩ U)<|z7 U U c1<|z8 (zh Yv U j9 (by decide) U U)<|z7 U U c1<|z8 (zq (c:=.int _ _) jg U ⟨_,.t3⟩ U)<|z7 U U c1<|aO U U<|au U c1 U<|z2 ?_
       exact ⟨_,(by repeat (first|with_reducible exact yh _ _|refine yu rfl ?_|exact b7)),aL,aE,by simp_all<;>omega⟩
      ·refine z6 U U c1<|z6 U U c1<|z6 U U c1<|z6 U U c1<|z6 U U c1<|aw U c1 U<|z2 ?_
       exact ⟨_,(by repeat (first|with_reducible exact yh _ _|refine yu rfl ?_|exact b7)),aL,aE,by simp_all<;>omega⟩
     ·rintro u hu
      refine zw U (fun cu=>?_) (fun cu=>?_)
      ·have cu:=wk (hu▸cu)
       rw[if_pos cu.1] at hZ2
       unfold ft at hZ2
       rw[if_neg cu.2] at hZ2
       refine zr (fun j=>Nat.beq j 10) (by kernel_rfl) U (zo (.r (.l (.l (.r (.rest _))))))<|ai 0 U (dR U)<|ai 1 U (dR U)<|ai 2 U (zy U)<|ai 3 U (zh X7 U sizeOf77 (by decide) U U)<|ai 4 U (zq (c:=.own _ _) isAgg77 U ⟨_,.head⟩ U)<|ai 5 U (qu isAgg80 Xd U ⟨_,.t1⟩ U)<|aN 6 U<|zx (rows:=[[_,_,_]]) Kx U U U U U<|z2<|aN 7 U<|yg (k:=3) underlying77 type80 U U U U U (fun _=>.t1) hrf (by decide) U (by show (_+_)*24≤_;simp<;>omega) (by simp<;>omega)<|fun i163=>z2<|yv (i:=8) U (by kernel_rfl) (by kernel_rfl) (by kernel_rfl) (by kernel_rfl) (zy U)<|ai 9 U (zh X7 U sizeOf77 (by decide) U U)<|yc<|yk (i:=10) U (by kernel_rfl) (by kernel_rfl)<|yn (l:=[_]) (new:=[_,_]) sizeOf77 U U U U U U .head U U<|z2<|yf (by kernel_rfl)<|yz (za (zc .t3))<|yz (za (zc .t3))<|yz (za (zc .t2))<|yy ?_
       exact ⟨(js2,i163),rfl,⟨_,.keep (.keep (.keep (.drop (.refl _)))),by rw[hZ2,wb,List.flatten_append,w5];rfl⟩,trivial⟩
      ·have cu:=wl (hu▸cu)
       have hZ3:Z=q2:=by
        rw[hZ2]
        by_cases h:0≤rn
        ·rw[if_pos h]
         unfold ft
         rw[if_pos (Classical.byContradiction fun e=>cu ⟨h,e⟩)]
        ·rw[if_neg h]
       refine zf<|yy ?_
       exact ⟨(js2,jo2),rfl,⟨_,.keep (.keep (.keep (.drop (.refl _)))),by rw[hZ3]⟩,trivial⟩
end
section
open Go.Proofs.Tryz
open Go.Proofs Go.Lib Go.Shelf Go.RowKit
theorem LS:em prog 162 #[(0,1),(1,1)] [.n,.n]:=⟨_,_,X7,zeroValue162,fun w=>by kernel_rfl,rfl⟩
variable {E:World}
set_option maxRecDepth 20000
theorem zR (f:ab) (hf:small f) (hR:bm f) (hv:f.vars.length≤1000) (iq:Nat):∀n,Ky E f iq n
 |0=>fun _ _ _ _ _ _ h=>by omega
 |n+1=>D9 f hf hR hv iq n (zR f hf hR hv iq n)
theorem mh.emp (f:ab):mh f ⟨[],[]⟩:=⟨List.nodup_nil,fun k hk=>(by cases hk),Nat.le_refl _⟩
theorem vX (f:ab) (hf:small f) (hR:bm f) (hv:f.vars.length≤1000) (c:Int) (is:Bool) (hc:bt f c=true) :
  aP prog E 49 [.agg (bw f),.int .i64 c,.bool is] (.fro 3 ((o9 f c is).map jG)):=by
 have hA:=fun iq js jo=>zR (E:=E) f hf hR hv iq 100000 ⟨[],[]⟩ js jo c is hc (hR.rk_low c) (mh.emp f)
 unfold GW at hA
 refine zp func49 U (by decide) U<|ae<|y6 (cs:=_) U U U<|cE U<|z2<|ae<|z8 (zz (cps:=[]) (rs:=[.n,.n]) LS U U U)<|yl (cs:=_) U U U U<|fun i9=>z8 (gu U)<|z2<|fW (off:=0) (k:=1) (T:=3) (fun _=>.head) U<|fun js=>fW (off:=1) (k:=3) (T:=80) (fun _=>.t1) U<|fun jo=>y7 (za (zc .head))<|y7 (za (zc .t1))<|y7 (za (zc .t2))<|y7 (za (zc .t2))<|y7 (za (zc .t2))<|y7 (za (zc .t2))<|ae<|bb U<|ac Z0 ji U U<|aa U<|aq U<|y3 U (zo (.l (.l (.l (.rest _))))) (hA i9 js jo) ?_
 rintro r14 O14 ⟨⟨j1,j2⟩,rfl,rfl,_⟩
 refine z2<|y7 (aR.knowC (off:=1) (rows:=(o9 f c is).map jG) .t2 .head U (by exact BA _) (by decide) (by rw[w6];rfl))<|ae<|bb U<|ax U<|z8 (zh X7 U sizeOf77 (by decide) U U)<|z8 (zq (c:=.fro _ _) isAgg77 U ⟨_,.head⟩ U)<|z8 (oA U)<|z2<|zg<|zm (x:=.fro _ _) U ?_
 rfl
theorem zS {b:Int}:∀{l:List Int},l.Nodup→(l.filter fun c=>decide (c=b))=if b∈l then[b] else[]
 |[],_=>rfl
 |x::l,h=>by
  rw[List.nodup_cons] at h
  rw[List.filter_cons,zS h.2]
  by_cases e:x=b
  ·subst e
   rw[if_pos (by simp),if_neg h.1,if_pos (.head _)]
  ·rw[if_neg (by simpa using e)]
   by_cases hm:b∈l
   ·rw[if_pos hm,if_pos (.tail _ hm)]
   ·rw[if_neg hm,if_neg (fun k=>by rcases List.mem_cons.1 k with k|k;exact e k.symm;exact hm k)]
def tY (f:ab) (b:Int) (k:Nat):List Int:=((aY f.blocks.length).take k).flatMap fun i=>((ah f i).filter fun c=>decide (c=b)).map fun _=>i
theorem Ea {f:ab} {b:Int} {k:Nat} (hk:k<f.blocks.length):tY f b (k+1)=tY f b k++if b∈ah f k then[(k:Int)] else[]:=by
 have hg:(aY f.blocks.length)[k]?=some (k:Int):=by unfold aY;rw[w7,List.getElem?_range hk];rfl
 unfold tY
 rw[List.take_add_one,hg,List.flatMap_append]
 show _++List.flatMap _ [(k:Int)]=_
 rw[List.flatMap_cons,List.flatMap_nil,wc,zS (iC f _)]
 split<;>rfl
theorem GX (f:ab) (b:Int) (k:Nat):∃r,bj (ah f) f.blocks.length b=tY f b k++r:=by
 refine ⟨((aY f.blocks.length).drop k).flatMap fun i=>((ah f i).filter fun c=>decide (c=b)).map fun _=>i,?_⟩
 unfold tY
 rw[←List.flatMap_append,List.take_append_drop];rfl
theorem GY (f:ab) (b:Int):tY f b f.blocks.length=bj (ah f) f.blocks.length b:=by
 unfold tY
 rw[List.take_of_length_le (by rw[bR];omega)];rfl
def Kz (f:ab) (b:Int) (k:Nat) (fr:Int):Prop:=(fr=-1∧tY f b k=[])∨((0≤fr∧fr<f.blocks.length)∧tY f b k=[fr])
set_option maxHeartbeats 4000000 in
theorem Eb {f:ab} (hf:small f) (hR:bm f) (i:Nat):aP prog E 25 [.agg (bw f),.int .i64 i] (.fro 3 ((jJ f i).map jG)):=by
 have hn:f.blocks.length≤1000:=hf.2.2.1
 have hv:=hf.1
 refine zp func25 U (by decide) U<|ae<|y6 (cs:=_) U U U<|cE U<|z2<|ae<|am U<|z2<|zb<|ae<|ak je U Zd U U<|aI Zf U<|aj ju U<|aa U<|z2<|zi<|y5 (γ:=Nat × Int) [1,2,10] (fun g=>[(11,.i g.1),(5,.i g.2)]) (fun g=>[]) (fun g=>g.1≤f.blocks.length∧Kz f i g.1 g.2) (fun g=>f.blocks.length - g.1) (0,-1) b7 aE (⟨w2 _,.inl ⟨U,U⟩⟩) ?_
 rintro ⟨k,fr⟩ ⟨hk,hS⟩
 try dsimp only at *
 refine ae<|ap U U<|z2<|zb<|zn U (fun ck=>?_) (fun ck=>?_)
 ·have hk2:k<f.blocks.length:=by omega
  have hsu:=Ea (f:=f) (b:=i) hk2
  refine zf<|zb<|zi<|ae<|aa U<|am U<|z2<|ae<|ac Z0 ji U U<|aa U<|aa U<|ze (kV f hn k i (by omega) (by omega)) U<|z2<|zw U (fun cl=>?_) (fun cl=>?_)
  ·have hl:(i:Int)∈ah f k:=wk cl
   rw[if_pos hl] at hsu
   refine zb<|ae<|aa U<|z8 (q9 U U)<|z2<|zn U (fun c2=>?_) (fun c2=>?_)
   ·have h2:(jJ f i)=[]:=by
     refine GU fun h=>?_
     obtain ⟨r,hr⟩:=GX f i (k+1)
     rcases hS with ⟨h1,_⟩|⟨_,h1⟩
     ·omega
     ·rw[hr,hsu,h1] at h
      simp at h
    rw[h2]
    refine ae<|cE U<|z2<|y7 (aR.slot (t:=4) U (v8.nil 3))<|zg<|zm (x:=.fro _ _) U ?_
    rfl
   ·have h1:tY f i k=[]:=by
     rcases hS with ⟨_,h1⟩|⟨h1,_⟩
     ·exact h1
     ·omega
    refine zf<|aW<|aa U<|am U<|z2<|aW<|aC U U<|aa U<|z2 ?_
    exact ⟨(k+1,(k:Int)),bW,b7,aE,⟨hk2,.inr ⟨⟨by omega,by omega⟩,by rw[hsu,h1];rfl⟩⟩,by dsimp only;omega⟩
  ·have hl:¬(i:Int)∈ah f k:=wl cl
   rw[if_neg hl,wc] at hsu
   refine zf<|aW<|aC U U<|aa U<|z2 ?_
   exact ⟨(k+1,fr),bW,b7,aE,⟨hk2,by unfold Kz;rw[hsu];exact hS⟩,by dsimp only;omega⟩
 ·obtain rfl:k=f.blocks.length:=by omega
  unfold Kz at hS
  rw[GY] at hS
  refine y4<|zb<|ae<|aa U<|ap U U<|z2<|zn U (fun c3=>?_) (fun c3=>?_)
  ·have h2:(jJ f i)=[]:=by
    refine GU fun h=>?_
    rcases hS with ⟨_,h1⟩|⟨h1,_⟩
    ·rw[h1] at h;cases h
    ·omega
   rw[h2]
   refine ae<|cE U<|z2<|y7 (aR.slot (t:=4) U (v8.nil 3))<|zg<|zm (x:=.fro _ _) U ?_
   rfl
  ·obtain ⟨hfr,hp⟩:(0≤fr∧fr<f.blocks.length)∧bj (ah f) f.blocks.length i=[fr]:=by
    rcases hS with ⟨h1,_⟩|h1
    ·omega
    ·exact h1
   obtain ⟨q,rfl⟩:∃q:Nat,fr=(q:Int):=⟨fr.toNat,by omega⟩
   have hq:=qx (show q<f.blocks.length by omega)
   obtain ⟨B,hB⟩:∃B,f.blocks[q]=B:=⟨_,rfl⟩
   rw[hB] at hq
   have hbq:=dD hq
   have hat:jJ f i=if B.term.kind=1∧B.term.to0≠B.term.to1 then o9 f B.term.var (decide (B.term.to0=i)) else[]:=by unfold jJ;rw[hp];dsimp only;rw[hbq]
   refine zf<|ae<|ak je U Zd U U<|aI Zf U<|aa U<|z8 (bB q ju Z2 U U U hq)<|ak jr U Zp U U<|ac Xk Zp U U<|zu (cs:=[.int .i64 0,.int .i64 0,.int .i64 0,.int .i64 0]) Xf U U<|fun i7=>zj Zp U U U U U U .head U<|zd (y8 (t:=7) U .head)<|z2<|zb<|zb<|yb (γ:=Bool) [1,2,7] (fun u=>[(41,.bool u)]) (fun u=>[]) (fun u=>u=decide (¬(B.term.kind=1∧B.term.to0≠B.term.to1))) ?_ (fun _ _ h=>h) ?_
   ·clear hat hbq hB hp
    refine aW<|ak jj U Y4 U U<|aA Yi U<|aO U U<|aq U<|zt (s:=33) U (fun c1=>?_) (fun c1=>?_)
    ·refine z6 U U c1<|z6 U U c1<|z6 U U c1<|z6 U U c1<|z6 U U c1<|z6 U U c1<|z6 U U c1<|au U c1 U<|z2 ?_
     exact ⟨_,(by repeat (first|with_reducible exact yh _ _|refine yu rfl ?_|exact bW)),aL,aE,by simp_all⟩
    ·refine z7 U U c1<|ak jj U Zg U U<|z7 U U c1<|z8 (yx (j:=0) Z9 j9 U U U (by decide) U)<|z7 U U c1<|aA jg U<|z7 U U c1<|ak jj U Zg U U<|z7 U U c1<|z8 (yx (j:=1) Z9 j9 U U U (by decide) U)<|z7 U U c1<|aA jg U<|z7 U U c1<|ao U U<|aw U c1 U<|z2 ?_
     exact ⟨_,(by repeat (first|with_reducible exact yh _ _|refine yu rfl ?_|exact bW)),aL,aE,by simp_all⟩
   ·rintro u hu
    refine zw U (fun cu=>?_) (fun cu=>?_)
    ·rw[hat,if_neg (wk (hu▸cu))]
     refine ae<|cE U<|z2<|y7 (aR.slot (t:=4) U (v8.nil 3))<|zg<|zm (x:=.fro _ _) U ?_
     rfl
    ·have hc:B.term.kind=1∧B.term.to0≠B.term.to1:=by rw[hu] at cu;simpa using cu
     rw[hat,if_pos hc]
     have hbm:=w9 hq
     have hvk:bt f B.term.var=true:=by
      have h1:=(hR.run.term _ hbm)
      unfold bJ at h1
      rw[if_neg (by omega),if_pos hc.1] at h1
      simp only[wh] at h1
      exact h1.1.1
     refine zf<|ae<|ac Z0 ji U U<|ak jj U j9 U U<|aA jg U<|ak jj U Zg U U<|z8 (yx (j:=0) Z9 j9 U U U (by decide) U)<|aA jg U<|aa U<|ao U U<|ze (vX f hf hR hv B.term.var (decide (B.term.to0=(i:Int))) hvk) U<|z8 (oA U)<|z2<|zg<|zm (x:=.fro _ _) U ?_
     rfl
end
end Go.Proofs.YtbbonnfjealmpaaGreatDoor
