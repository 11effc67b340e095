/- What is known where a bool variable is, or isn't. Of single programs that are little. -/
import Derived.Test.YtdilpodccjlkgaaGreatDoorZp
import Derived.Test.YtdilpodccjlkgaaGreatDoorZo
import Derived.Test.YtdilpodccjlkgaaGreatDoorZj
import Derived.Test.YtdilpodccjlkgaaGreatDoorZn
import Derived.Test.YtdilpodccjlkgaaGreatDoorZm
import Derived.Test.YtdilpodccjlkgaaGreatDoorZc
import Derived.Test.YtdilpodccjlkgaaGreatDoorChecked
set_option linter.unusedVariables false
set_option linter.unusedSimpArgs false
set_option linter.unusedSectionVars false
namespace Go.Proofs.YtdilpodccjlkgaaGreatDoor
open Go.Proofs.Tryz
open Go.Proofs Go.Lib Go.Shelf Go.RowKit
theorem HV:dB prog 187 #[(0,1),(1,1)] [.int .i64 0,.raw (.slice none 0 0)]:=⟨_,_,underlying187,zeroValue187,fun w=>by kernel_rfl,rfl⟩
theorem GQ:da prog 72 187 1 2 [.int .i64 0,.raw (.slice none 0 0)]:=⟨_,Xk,sizeOf187,zeroValue187,by decide,by decide,by kernel_rfl⟩
variable {E:World}
set_option maxRecDepth 20000
theorem Fh (K:KS) (q:Int × List Int):(K.p.map b9).flatten++b9 q=((K.p++[q]).map b9).flatten:=by simp
theorem oM (r:List (Int × List Int)):(r.map b9).flatten.length=r.length*2:=by
 induction r with
 |nil=>rfl
 |cons o r ih=>rw[List.map_cons,List.flatten_cons,qz,ih,List.length_cons];show 2+_=_;omega
theorem Fi {f:ac} {x:aF} (hF:bM f x) (hc:18≤x.op∧x.op≤24):aU f (bj x)∧0<x.args.length:=by
 have h:=hF.cnt (k:=x.op) rfl
 have h2:0<x.args.length:=by
  obtain ⟨k,hk,e⟩:∃k:Nat,k≤6∧x.op=18+(k:Int):=⟨(x.op - 18).toNat,by omega,by omega⟩
  rw[h,e]
  have:k=0∨k=1∨k=2∨k=3∨k=4∨k=5∨k=6:=by omega
  rcases this with rfl|rfl|rfl|rfl|rfl|rfl|rfl<;>decide
 exact ⟨cO (hF.a0 h2),h2⟩
section
variable {f:ac} {K:KS} {t pr a9 a10:AV} {iw js jl jm jp:Nat} {M:List Int}
theorem Fj (K:KS) (x:aF):(lN f K x).p=K.p++[(x.op,x.args)]:=by
 unfold lN;repeat' split
 ·rw[cP,cP]
 ·rw[cP,cP]
 ·rw[cP]
 ·rw[cP]
 ·rfl
 ·rfl
variable (hv:f.vars.length≤1000)
include hv
set_option maxHeartbeats 4000000 in
theorem xL (hK:KB f K) (hP:vG K.p) (x:aF) (hF:bM f x) (hc:18≤x.op∧x.op≤24) :
  aY prog E 72 [.po iw 0,.agg (bH x)] (iM f t pr a9 a10 iw js jl jm jp K M) (fun y O=>∃g:Nat × Nat,y=.tup []∧O=iM f t pr a9 a10 iw js g.1 jm g.2 (lN f K x) M∧True):=by
 refine qa (γ:=Nat × Nat) (x:=fun g=>.tup []) (M:=fun g=>iM f t pr a9 a10 iw js g.1 jm g.2 (lN f K x) M) (p:=fun _=>True) ?_
 have nn:aU f (dW f):=fZ
 have n0:=Fi hF hc
 have a1:∀{k:Int},x.op=k→1<([0,1,2,2,2,2,2,2,2,2,1,2,1,2,3,1,0,1,2,1,1,2,2,2,1,2,2][k.toNat]?).getD 0→aU f (b7 x)∧1<x.args.length:=fun e h=>⟨cO (hF.a1 (by rw[hF.cnt e];exact h)),by rw[hF.cnt e];exact h⟩
 have hpl:=hP.1
 have hpf:=oM K.p
 obtain ⟨Q,hQ⟩:∃Q:KS,(⟨K.l,K.p++[(x.op,x.args)]⟩:KS)=Q:=⟨_,rfl⟩
 have hQB:KB f Q:=hQ▸hK.pass _
 have hQp:Q.p=K.p++[(x.op,x.args)]:=hQ▸rfl
 have hQl:Q.l=K.l:=hQ▸rfl
 have hpos:=fun jp=>F3 (E:=E) (t:=t) (pr:=pr) (a9:=a9) (a10:=a10) (iw:=iw) (js:=js) (jl:=jl) (jm:=jm) (jp:=jp) (M:=M) hv hQB n0.1
 have hup:=fun jp=>HT (E:=E) (t:=t) (pr:=pr) (a9:=a9) (a10:=a10) (iw:=iw) (js:=js) (jl:=jl) (jm:=jm) (jp:=jp) (M:=M) hv hQB n0.1
 have hpe:nu f Q (bj x)=nu f K (bj x):=hQ▸rfl
 have hfe:e8 f K (bj x) (dW f) 0=e8 f Q (bj x) (dW f) 0:=hQ▸rfl
 have add:=fun jl K hK a b (ha:aU f a) (hb:aU f b) c=>gR (E:=E) (js:=js) (jm:=jm) (M:=M) jl K hK ha hb c
 unfold iM at *
 refine zp func72 Z (by decide) Z<|ai<|ya (cs:=_) Z Z Z<|z6<|zd<|zr (fun j=>Nat.beq j 14) (by kernel_rfl) Z (zj (.r (.rest _)))<|ad 0 Z (cJ Z)<|ad 1 Z (cJ Z)<|ad 2 Z (zw Z)<|ad 3 Z (zf j9 Z sizeOf72 (by decide) Z Z)<|ad 4 Z (zo (c:=.own _ _) isAgg72 Z ⟨_,.head⟩ Z)<|ad 5 Z (bK j5 Z Z2 Z Z)<|ad 6 Z (cQ Z4 Z)<|ad 7 Z (bK j5 Z j7 Z Z)<|ad 8 Z (e9 jf Z)<|ad 9 Z (y3 (cps:=[(0,[_]),(1,[_])]) (rs:=[_,_]) HV Z Z Z)<|aQ 10 Z<|y4 (rows:=[[_,_]]) GQ Z Z Z Z Z<|z6<|aQ 11 Z<|yu (k:=2) Xk type187 Z Z Z Z Z (fun _=>.t3) hpf (by decide) Z (by show (_+_)*32≤_;simp<;>omega) (by simp<;>omega)<|fun i18=>z6<|yp (i:=12) Z (by kernel_rfl) (by kernel_rfl) (by kernel_rfl) (by kernel_rfl) (zw Z)<|ad 13 Z (zf j9 Z sizeOf72 (by decide) Z Z)<|yf<|yh (i:=14) Z (by kernel_rfl) (by kernel_rfl)<|yq (l:=[_]) (new:=[_,_,_,_,_,_,_,_,_,_,_]) sizeOf72 Z Z Z Z Z Z .head Z Z<|z6<|ym (by kernel_rfl)<|zz (zb (zc .t4))<|zz (zb (zc .t4))<|zz (zb (zc .t4))<|zz (zb (zc .t4))<|zz (zb (zc .t4))<|zz (aS.eq (show _=([(iw,.cells 75 (lP f t pr js i18 Q.p.length a9 a10)),(js,.cells 136 [.int .i64 ((f.vars.length+1:Nat):Int),.own jl Q.l.length,.own jm M.length]),(jl,.grow 3 180 (Q.l.map b8).flatten),(jm,.grow 1 3 (cI M)),(i18,.grow 2 187 (Q.p.map b9).flatten)]:OL) from (by rw[hQp,hQl,←Fh,qz];rfl))) ?_
 have hcp:∀R:KS,R.p=Q.p→True:=fun _ _=>trivial
 unfold lN
 rw[hQ]
 refine ai<|au j5 Z j7 Z Z<|aI jf Z<|za (bv 0 wy wz Z Z Z (cU n0.2))<|aA j6 Z<|ao Z<|z6<|ai<|au j5 Z Z2 Z Z<|aA Z4 Z<|z6<|zm<|ai<|ak Z Z<|ab Z<|z6<|zt Z (fun c18=>?_) (fun c18=>?_)
 ·have c18:x.op=18:=c18
  have h1:=a1 c18 (by decide)
  rw[if_pos c18]
  refine zd<|zr (fun j=>false) (by kernel_rfl) Z (zj (.r (.rest _)))<|ad 0 Z (cJ Z)<|ad 1 Z (zw Z)<|ad 2 Z (zf j9 Z Z7 (by decide) Z Z)<|ad 3 Z (zo (c:=.po _ _) Zf Z ⟨_,.head⟩ Z)<|ad 4 Z (cJ Z)<|ad 5 Z (zw Z)<|ad 6 Z (zf j9 Z wz (by decide) Z Z)<|ad 7 Z (zo (c:=.int _ _) j6 Z ⟨_,.head⟩ Z)<|ad 8 Z (bK j5 Z j7 Z Z)<|ad 9 Z (e9 jf Z)<|ad 10 Z (bv 1 wy wz Z Z Z (du h1.2))<|ad 11 Z (cQ j6 Z)<|aQ 12 Z<|zu Z (zj (.l (.l (.l (.r (.rest _)))))) (add jl Q hQB _ _ nn h1.1 0) ?_
  rintro r41 O41 ⟨⟨j1,u1⟩,rfl,rfl,_⟩
  refine z6<|bI<|zz (zb (zc .t4))<|zz (zb (zc .t4))<|zz (zb (zc .t4))<|zz (zb (zc .t4))<|zz (zb (zc .t4))<|zr (fun j=>false) (by kernel_rfl) Z (zj (.r (.rest _)))<|ad 0 Z (cJ Z)<|ad 1 Z (zw Z)<|ad 2 Z (zf j9 Z Z7 (by decide) Z Z)<|ad 3 Z (zo (c:=.po _ _) Zf Z ⟨_,.head⟩ Z)<|ad 4 Z (bK j5 Z j7 Z Z)<|ad 5 Z (e9 jf Z)<|ad 6 Z (bv 1 wy wz Z Z Z (du h1.2))<|ad 7 Z (cQ j6 Z)<|ad 8 Z (cD Z)<|aQ 9 Z<|zu Z (zj (.l (.l (.l (.r (.rest _)))))) (add j1 _ (hQB.add (c:=0) nn h1.1) _ _ h1.1 n0.1 (-1)) ?_
  rintro r51 O51 ⟨⟨j2,u2⟩,rfl,rfl,_⟩
  refine z6<|bI<|y9 (zb (zc .t4))<|y9 (zb (zc .t4))<|y9 (zb (zc .t4))<|y9 (zb (zc .t4))<|y9 (zb (zc .t4))<|yl ?_
  exact ⟨(j2,i18),rfl,⟨_,.refl _,by rw[cP,cP]⟩,trivial⟩
 ·rw[if_neg (show ¬x.op=18 from c18)]
  refine ai<|ak Z Z<|ab Z<|z6<|zt Z (fun c24=>?_) (fun c24=>?_)
  ·rw[if_pos (show x.op=24 from c24)]
   refine zd<|zr (fun j=>false) (by kernel_rfl) Z (zj (.r (.rest _)))<|ad 0 Z (cJ Z)<|ad 1 Z (zw Z)<|ad 2 Z (zf j9 Z Z7 (by decide) Z Z)<|ad 3 Z (zo (c:=.po _ _) Zf Z ⟨_,.head⟩ Z)<|ad 4 Z (cJ Z)<|ad 5 Z (zw Z)<|ad 6 Z (zf j9 Z wz (by decide) Z Z)<|ad 7 Z (zo (c:=.int _ _) j6 Z ⟨_,.head⟩ Z)<|ad 8 Z (cD Z)<|aQ 9 Z<|zu Z (zj (.l (.l (.l (.r (.rest _)))))) (add jl Q hQB _ _ nn n0.1 0) ?_
   rintro r63 O63 ⟨⟨j1,u1⟩,rfl,rfl,_⟩
   refine z6<|bI<|zz (zb (zc .t4))<|zz (zb (zc .t4))<|zz (zb (zc .t4))<|zz (zb (zc .t4))<|zz (zb (zc .t4))<|zr (fun j=>false) (by kernel_rfl) Z (zj (.r (.rest _)))<|ad 0 Z (cJ Z)<|ad 1 Z (zw Z)<|ad 2 Z (zf j9 Z Z7 (by decide) Z Z)<|ad 3 Z (zo (c:=.po _ _) Zf Z ⟨_,.head⟩ Z)<|ad 4 Z (cD Z)<|ad 5 Z (cJ Z)<|ad 6 Z (zw Z)<|ad 7 Z (zf j9 Z wz (by decide) Z Z)<|ad 8 Z (zo (c:=.int _ _) j6 Z ⟨_,.head⟩ Z)<|aQ 9 Z<|zu Z (zj (.l (.l (.l (.r (.rest _)))))) (add j1 _ (hQB.add (c:=0) nn n0.1) _ _ n0.1 nn 64) ?_
   rintro r73 O73 ⟨⟨j2,u2⟩,rfl,rfl,_⟩
   refine z6<|bI<|y9 (zb (zc .t4))<|y9 (zb (zc .t4))<|y9 (zb (zc .t4))<|y9 (zb (zc .t4))<|y9 (zb (zc .t4))<|yl ?_
   exact ⟨(j2,i18),rfl,⟨_,.refl _,by rw[cP,cP]⟩,trivial⟩
  ·rw[if_neg (show ¬x.op=24 from c24)]
   refine ai<|ak Z Z<|ab Z<|z6<|zt Z (fun c20=>?_) (fun c20=>?_)
   ·rw[if_pos (show x.op=20 from c20)]
    refine ai<|aJ Z<|aa Z<|zu Z (zj (.l (.l (.l (.l (.l (.rest _))))))) (hpos i18) ?_
    rintro r78 O78 ⟨rfl,rfl⟩
    refine z6<|zy Z (fun cp=>?_) (fun cp=>?_)
    ·rw[if_pos (show nu f K (bj x)=true from hpe▸cp)]
     refine zr (fun j=>false) (by kernel_rfl) Z (zj (.r (.rest _)))<|ad 0 Z (cJ Z)<|ad 1 Z (zw Z)<|ad 2 Z (zf j9 Z Z7 (by decide) Z Z)<|ad 3 Z (zo (c:=.po _ _) Zf Z ⟨_,.head⟩ Z)<|ad 4 Z (cJ Z)<|ad 5 Z (zw Z)<|ad 6 Z (zf j9 Z wz (by decide) Z Z)<|ad 7 Z (zo (c:=.int _ _) j6 Z ⟨_,.head⟩ Z)<|ad 8 Z (cD Z)<|aQ 9 Z<|zu Z (zj (.l (.l (.l (.r (.rest _)))))) (add jl Q hQB _ _ nn n0.1 (-1)) ?_
     rintro r88 O88 ⟨⟨j1,u1⟩,rfl,rfl,_⟩
     refine z6<|bI<|y9 (zb (zc .t4))<|y9 (zb (zc .t4))<|y9 (zb (zc .t4))<|y9 (zb (zc .t4))<|y9 (zb (zc .t4))<|yl ?_
     exact ⟨(j1,i18),rfl,⟨_,.refl _,by rw[cP]⟩,trivial⟩
    ·rw[if_neg (show ¬nu f K (bj x)=true by rw[←hpe,cp];decide)]
     refine ai<|aJ Z<|aa Z<|zu Z (zj (.l (.l (.l (.l (.l (.rest _))))))) (hup i18) ?_
     rintro r92 O92 ⟨rfl,rfl⟩
     refine za (ke Z)<|za (iN Z Z)<|za (jJ Z Z)<|ao Z<|ab Z<|z6<|zd<|ye (γ:=Bool) [0,4] (fun u=>[(99,.bool u)]) (fun u=>[(iw,.cells 75 (lP f t pr js i18 Q.p.length a9 a10)),(js,.cells 136 [.int .i64 ((f.vars.length+1:Nat):Int),.own jl Q.l.length,.own jm M.length]),(jl,.grow 3 180 (Q.l.map b8).flatten),(jm,.grow 1 3 (cI M)),(i18,.grow 2 187 (Q.p.map b9).flatten)]) (fun u=>u=e8 f Q (bj x) (dW f) 0) ?_ (fun _ _ h=>h) ?_
     ·refine aW<|aj Z<|aj Z<|zq (s:=96) Z (fun c1=>?_) (fun c1=>?_)
      ·refine z8 Z Z c1<|aa Z<|z8 Z Z c1<|za (Gv.leq Z Z)<|aw Z c1 Z<|z6 ?_
       exact ⟨_,(by repeat (first|with_reducible exact y5 _ _|refine yn rfl ?_)),aK,aH,by unfold e8 oR;unfold fl at *;cases h:ft Q.l (f.vars.length+1) (bj x) (dW f)<;>simp_all⟩
      ·refine z7 Z Z c1<|z7 Z Z c1<|ax Z c1 Z<|z6 ?_
       exact ⟨_,(by repeat (first|with_reducible exact y5 _ _|refine yn rfl ?_)),aK,aH,by unfold e8 oR;unfold fl at *;cases h:ft Q.l (f.vars.length+1) (bj x) (dW f)<;>simp_all⟩
     ·rintro u hu
      refine zy Z (fun cu=>?_) (fun cu=>?_)
      ·rw[if_pos (show e8 f K (bj x) (dW f) 0=true by rw[hfe,←hu];exact cu)]
       refine zr (fun j=>false) (by kernel_rfl) Z (zj (.r (.rest _)))<|ad 0 Z (cJ Z)<|ad 1 Z (zw Z)<|ad 2 Z (zf j9 Z Z7 (by decide) Z Z)<|ad 3 Z (zo (c:=.po _ _) Zf Z ⟨_,.head⟩ Z)<|ad 4 Z (cD Z)<|ad 5 Z (cJ Z)<|ad 6 Z (zw Z)<|ad 7 Z (zf j9 Z wz (by decide) Z Z)<|ad 8 Z (zo (c:=.int _ _) j6 Z ⟨_,.head⟩ Z)<|aQ 9 Z<|zu Z (zj (.l (.l (.l (.r (.rest _)))))) (add jl Q hQB _ _ n0.1 nn (-1)) ?_
       rintro r109 O109 ⟨⟨j1,u1⟩,rfl,rfl,_⟩
       refine z6<|bI<|y9 (zb (zc .t4))<|y9 (zb (zc .t4))<|y9 (zb (zc .t4))<|y9 (zb (zc .t4))<|y9 (zb (zc .t4))<|yl ?_
       exact ⟨(j1,i18),rfl,⟨_,.refl _,by rw[cP]⟩,trivial⟩
      ·rw[if_neg (show ¬e8 f K (bj x) (dW f) 0=true by rw[hfe,←hu,cu];decide)]
       refine zi<|yl ?_
       exact ⟨(jl,i18),rfl,⟨_,.refl _,rfl⟩,trivial⟩
   ·rw[if_neg (show ¬x.op=20 from c20)]
    refine zi<|yl ?_
    exact ⟨(jl,i18),rfl,⟨_,.refl _,rfl⟩,trivial⟩
end
end Go.Proofs.YtdilpodccjlkgaaGreatDoor
namespace Go.Proofs.YtdilpodccjlkgaaGreatDoor
open Go.Proofs.Tryz
structure tJ (κ:Type) where
 av:κ→List AV
 val:κ→Array Value
 one:∀{I:G} {k:κ} {v:Value},bp I (.agg (av k)) v→v=.agg (val k)
 bits:∀k,Instr.sameBits 10000 (.agg (val k)) (.agg (val k))=true
section
variable {κ:Type} [DecidableEq κ] (c:tJ κ)
structure iJ (P:Program) (kt:TypeId):Prop where
 und:∃fs,P.underlying kt=some (.struct fs)
 chk:∀e k w,(Instr.checkKey e 10000 kt (.agg (c.val k))).run P w=.ok () w
 eq:∀k k' w,(Op.equal kt (.agg (c.val k)) (.agg (c.val k'))).run P w=.ok (decide (k=k')) w
def fL (k:κ):List (κ × Int)→Nat→Option (Nat × Int)
 |[],_=>none
 |(k',v)::es,i=>if k=k' then some (i,v) else fL k es (i+1)
def bf (es:List (κ × Int)) (k:κ):Option Int:=(fL k es 0).map (·.2)
def bU (es:List (κ × Int)) (k:κ) (v:Int):List (κ × Int):=match fL k es 0 with
 |some (j,_)=>es.set j (k,v)
 |none=>es++[(k,v)]
theorem qO (k:κ):∀(es:List (κ × Int)) (i:Nat),fL k es i=(fL k es 0).map fun q=>(q.1+i,q.2)
 |[],_=>rfl
 |(k',v)::es,i=>by
  unfold fL
  split
  ·simp
  ·rw[qO k es (i+1),qO k es (0+1),Option.map_map]
   congr 1
   funext q
   simp only[Function.comp,Prod.mk.injEq,and_true];omega
theorem qP {k:κ}:∀{es:List (κ × Int)} {i:Nat},fL k es i=none↔k ∉ es.map (·.1)
 |[],_=>by simp[fL]
 |(k',v)::es,i=>by
  unfold fL
  split
  ·rename_i h;simp[h]
  ·rename_i h;rw[qP (es:=es)];simp[h]
theorem gy {k:κ}:∀{es:List (κ × Int)} {j:Nat} {v:Int},fL k es 0=some (j,v)→es[j]?=some (k,v)∧k ∉ (es.take j).map (·.1)
 |[],_,_,h=>by simp[fL] at h
 |(k',u)::es,j,v,h=>by
  unfold fL at h
  split at h
  ·rename_i e
   simp only[Option.some.injEq,Prod.mk.injEq] at h
   obtain ⟨rfl,rfl⟩:=h
   subst e
   exact ⟨rfl,by simp⟩
  ·rename_i e
   rw[qO] at h
   cases hq:fL k es 0 with
   |none=>rw[hq] at h;cases h
   |some q=>
    rw[hq] at h
    simp only[Option.map_some,Option.some.injEq,Prod.mk.injEq] at h
    obtain ⟨rfl,rfl⟩:=h
    obtain ⟨h1,h2⟩:=gy (es:=es) (j:=q.1) (v:=q.2) hq
    refine ⟨by simpa using h1,?_⟩
    rw[show q.1+(0+1)=q.1+1 by omega]
    simp[e]
    simpa using h2
theorem me (k':κ) (v:Int) (es:List (κ × Int)) (k:κ):bf ((k',v)::es) k=if k=k' then some v else bf es k:=by
 unfold bf
 rw[fL]
 split
 ·rfl
 ·rw[qO,Option.map_map];rfl
theorem mS:∀(es fs:List (κ × Int)) (k:κ),bf (es++fs) k=(bf es k).or (bf fs k)
 |[],fs,k=>by simp[bf,fL]
 |(k',v)::es,fs,k=>by
  rw[List.cons_append,me,me,mS es fs k]
  split<;>simp
theorem qQ {es:List (κ × Int)} {k:κ}:bf es k=none↔k ∉ es.map (·.1):=by
 unfold bf;rw[Option.map_eq_none_iff];exact qP
theorem gS {es:List (κ × Int)} {k:κ} (h:bf es k=none) (v:Int):bU es k v=es++[(k,v)]:=by
 have:fL k es 0=none:=qP.2 (qQ.1 h)
 unfold bU;rw[this]
theorem qR {es:List (κ × Int)} {k:κ} (h:bf es k=none) (v:Int) (k':κ):bf (bU es k v) k'=if k'=k then some v else bf es k':=by
 rw[gS h,mS,me]
 split
 ·rename_i e;rw[e,h];rfl
 ·show (bf es k').or (bf [] k')=_
  cases bf es k'<;>rfl
def fo (e:κ × Int):Value × Value:=(.agg (c.val e.1),.int .i64 e.2)
def kr (b:Nat) (es:List (κ × Int)):bA:=.heap fun L=>∃arr clock,L=[(b,.map arr clock)]∧gm arr=es.map (fo c)
variable {c}
section
variable {P:Program} {kt:TypeId} {w:World}
theorem n4 (h:iJ c P kt) (k:κ):∀(l:List MapEntry) (es:List (κ × Int)) (i:Nat),l.map (fun e=>(e.key,e.val))=es.map (fo c) →
  (Instr.findAsking kt (.agg (c.val k)) l i).run P w=.ok ((fL k es i).map fun q=>(q.1,.int .i64 q.2)) w
 |[],[],_,_=>rfl
 |[],_::_,_,e=>by cases e
 |_::_,[],_,e=>by cases e
 |x::l,(k',v)::es,i,e=>by
  simp only[List.map_cons,List.cons.injEq,fo,Prod.mk.injEq] at e
  obtain ⟨⟨e1,e2⟩,e3⟩:=e
  unfold Instr.findAsking
  rw[Sem.run_bind,e1,h.eq k k' w]
  simp only[Result.andThen]
  unfold fL
  by_cases hk:k=k'
  ·rw[w8 hk,if_pos hk,e2];rfl
  ·rw[w9 hk,if_neg hk];exact n4 h k l es (i+1) e3
theorem lB (h:iJ c P kt) (k:κ) (l:List MapEntry) (es:List (κ × Int)) (e:l.map (fun e=>(e.key,e.val))=es.map (fo c)) :
  (Instr.findKey kt (.agg (c.val k)) l).run P w=.ok ((fL k es 0).map fun q=>(q.1,.int .i64 q.2)) w:=by
 obtain ⟨fs,hu⟩:=h.und
 unfold Instr.findKey
 rw[Sem.run_bind,run_underlying hu]
 simp only[Result.andThen]
 cases l with
 |nil=>
  cases es with
  |nil=>rfl
  |cons _ _=>cases e
 |cons x l=>
  cases es with
  |nil=>cases e
  |cons y es=>
   have hx:x.key=(.agg (c.val y.1):Value):=by simp only[List.map_cons,List.cons.injEq,fo,Prod.mk.injEq] at e;exact e.1.1
   have:Instr.findNow (.struct fs) (.agg (c.val k)) (x::l) 0=none:=by unfold Instr.findNow;rw[hx];rfl
   rw[this]
   exact n4 h k (x::l) (y::es) 0 e
omit [DecidableEq κ] in
theorem Dx (k:κ):(Instr.keyThatStays (Value.agg (c.val k)) (Value.agg (c.val k))).run P w=.ok (.agg (c.val k)) w:=by
 have:Instr.sameBits 10000 (Value.agg (c.val k)) (Value.agg (c.val k))=true:=c.bits k
 unfold Instr.keyThatStays
 rw[if_pos this];rfl
end
section
variable {E:World} {P:Program} {ops:Array Oper} {K:aR→OL→Prop} {env:aR} {O O' O'':OL} {rest:List Oper} {n:Nat}
variable {d ty:Nat} {pos:String} {af:Array Edge} {x y z:Operand} {t u e T kt:TypeId} {b:Nat}
omit [DecidableEq κ] in
theorem az.makeMapS (k:∀b,az P E ops K rest (bq env d (dy b)) ((0,kr c b [])::O)):az P E ops K (Oper.mk (some d) (.makeMap t none) ty pos af none::rest) env O:=fun I F ρ w h1 ⟨ht,L,hL,hS⟩=>by
 refine qn Z ?_
 unfold jH
 have:(execOp (Go.Proofs.YtdilpodccjlkgaaGreatDoor.ev ρ) (Oper.mk (some d) (.makeMap t none) ty pos af none)).run P w=.ok (.value (.map (some w.heap.size))) (w.alloc (.map #[] 0)):=by
  simp only[execOp,Option.map_none]
  rw[Sem.run_bind,run_makeMap_plain];rfl
 rw[this]
 exact k w.heap.size I F _ _ (h1.upd d rfl) ⟨ht,(w.heap.size,.map #[] 0)::L,⟨[_],L,rfl,⟨#[],0,rfl,rfl⟩,hL⟩,hS.alloc _⟩
theorem Gv.lookup1SK {k:κ} {m:Nat} {es:List (κ × Int)} (hk:iJ c P kt) (ht:P.underlying t=some (.map kt u)) (hz:∀w,(zeroValue u).run P w=.ok (.int .i64 0) w) (hx:aV env x=dy b) (hy:aV env y=.agg (c.av k))
  (hO:nF O m (kr c b es)):Gv P env O (Oper.mk (some d) (.lookup t x y false) ty pos af none) (.int .i64 ((bf es k).getD 0)):=fun I L E ρ h1 hL=>by
 obtain ⟨O',hO⟩:=hO
 obtain ⟨A,B,hp,⟨arr,clock,rfl,hM⟩,_⟩:=hO.rep hL
 have hin0:(b,Obj.map arr clock)∈L:=hp.mem_iff.2 (by simp)
 have hx:=fB h1 hx
 have hy2:=h1.ev y
 rw[hy] at hy2
 have hy:=c.one hy2
 refine ⟨.int .i64 ((bf es k).getD 0),Z,fun w J L' hl hS hin=>?_⟩
 have hb:w.heap[b]?=some (Obj.map arr clock):=by
  have:=hS.own _ (hin _ hin0);simpa using this
 have hc:=hk.chk arr.isEmpty k w
 have hf:=lB (w:=w) hk k arr.toList es hM
 have hfin:(bf es k)=(fL k es 0).map (·.2):=rfl
 cases hq:fL k es 0 with
 |none=>
  rw[hq] at hf hfin
  rw[hfin]
  simp[execOp,Instr.lookup,run_underlying ht,hx,hy,MapKept.run_getObj_map hb,hc,hf,hz,Result.andThen]
 |some q=>
  rw[hq] at hf hfin
  rw[hfin]
  simp[execOp,Instr.lookup,run_underlying ht,hx,hy,MapKept.run_getObj_map hb,hc,hf,Result.andThen]
omit [DecidableEq κ] in
theorem tK {arr:Array MapEntry} {es:List (κ × Int)} {j:Nat} {k:κ} {v:Int} (h:gm arr=es.map (fo c)) (hj:j<es.length):gm (arr.modify j fun e=>{ e with key:=.agg (c.val k),val:=.int .i64 v })=(es.set j (k,v)).map (fo c):=by
 unfold gm at h ⊢
 have hl:arr.toList.length=es.length:=by have:=congrArg List.length h;simpa using this
 refine List.ext_getElem? fun q=>?_
 rw[w2,w2,Array.getElem?_toList,Array.getElem?_modify]
 by_cases hq:j=q
 ·subst hq
  rw[if_pos rfl,List.getElem?_set_self hj]
  obtain ⟨e,he⟩:∃e,arr[j]?=some e:=⟨_,Array.getElem?_eq_getElem (by rw[←Array.length_toList];omega)⟩
  rw[he];rfl
 ·rw[if_neg hq,List.getElem?_set_ne hq]
  have:=congrArg (fun l=>l[q]?) h
  simpa [w2] using this
theorem az.mapSetS {k:κ} {m:Nat} {v:Int} {es:List (κ × Int)} (hk:iJ c P kt) (ht:P.underlying t=some (.map kt u)) (hx:aV env x=dy b) (hy:aV env y=.agg (c.av k)) (hz:aV env z=.int .i64 v) (hO:fR O m (kr c b es) (kr c b (bU es k v)) O')
  (kk:az P E ops K rest env O'):az P E ops K (Oper.mk none (.mapUpdate t x y z) ty pos af none::rest) env O:=fun I F ρ w h1 ⟨htop,L,hL,hS⟩=>by
 have hx:=fB h1 hx
 have hy2:=h1.ev y
 rw[hy] at hy2
 have hy2:=c.one hy2
 have hz:=fK h1 hz
 obtain ⟨A,B,hp,⟨arr,clock,rfl,he⟩,hback⟩:=hO.rep hL
 have hS2:SL I.k ((b,.map arr clock)::(B++F)) E w:=hS.perm ((hp.append_right F).symm)
 have hb:=hS2.own _ (.head _)
 simp only at hb
 have hc:=hk.chk false k w
 have hf:=lB (w:=w) hk k arr.toList es he
 have fin:∀(arr':Array MapEntry) (clock':Nat),gm arr'=(bU es k v).map (fo c) →
   (execOp (Go.Proofs.YtdilpodccjlkgaaGreatDoor.ev ρ) (Oper.mk none (.mapUpdate t x y z) ty pos af none)).run P w=.ok .skip { w with heap:=w.heap.setIfInBounds b (.map arr' clock') }→bZ P ops (ir I F E K) (Oper.mk none (.mapUpdate t x y z) ty pos af none::rest) ρ w:=fun arr' clock' he' hrun=>by
  refine qn Z ?_
  unfold jH
  rw[hrun]
  obtain ⟨L',h7,h8⟩:=hback (qf I) (A':=[(b,.map arr' clock')]) ⟨arr',clock',rfl,he'⟩
  have hh:=MapKept.heap_set (o':=.map arr' clock') hb
  have hS3:SL I.k ((b,.map arr' clock')::(B++F)) E { w with heap:=w.heap.setIfInBounds b (.map arr' clock') }:=hS2.turn rfl rfl rfl hh.1 hh.2
  exact kk I F ρ _ h1 ⟨htop,L',h7,hS3.perm (h8.append_right F)⟩
 cases hq:fL k es 0 with
 |none=>
  rw[hq] at hf
  refine fin (arr.push { key:=.agg (c.val k),val:=.int .i64 v,born:=clock }) (clock+1) ?_ ?_
  ·unfold bU gm at *
   rw[hq]
   simp only[Array.toList_push,w5,he];rfl
  ·simp[execOp,hx,hy2,hz,Instr.mapUpdate,run_underlying ht,MapKept.run_getObj_map hb,hc,hf,MapKept.run_setObj_map _ hb,Result.andThen]
 |some q=>
  obtain ⟨j,u0⟩:=q
  rw[hq] at hf
  obtain ⟨g1,_⟩:=gy hq
  have hj:=(List.getElem?_eq_some_iff.1 g1).1
  have hl:arr.toList.length=es.length:=by have:=congrArg List.length he;unfold gm at this;simpa using this
  obtain ⟨e0,he0⟩:∃e,arr[j]?=some e:=⟨_,Array.getElem?_eq_getElem (by rw[←Array.length_toList];omega)⟩
  have hek:e0.key=.agg (c.val k):=by
   have:=congrArg (fun l=>l[j]?) he
   unfold gm at this
   simp only[w2,Array.getElem?_toList,he0,g1,Option.map_some,Option.some.injEq,fo,Prod.mk.injEq] at this
   exact this.1
  refine fin (arr.modify j fun e=>{ e with key:=.agg (c.val k),val:=.int .i64 v }) clock ?_ ?_
  ·unfold bU;rw[hq];exact tK he hj
  ·simp[execOp,hx,hy2,hz,Instr.mapUpdate,run_underlying ht,MapKept.run_getObj_map hb,hc,hf,MapKept.run_setObj_map _ hb,Result.andThen,he0,hek,Dx]
end
end
end Go.Proofs.YtdilpodccjlkgaaGreatDoor
namespace Go.Proofs.YtdilpodccjlkgaaGreatDoor
open Go.Proofs.Tryz
section
variable {κ:Type} [DecidableEq κ] (c:tJ κ)
def qS (arr:Array MapEntry) (clock:Nat):Prop:=(∀x∈arr.toList,x.born<clock)∧(arr.toList.map (·.born)).Nodup
def lQ (b:Nat) (es:List (κ × Int)):bA:=.heap fun L=>∃arr clock,L=[(b,.map arr clock)]∧gm arr=es.map (fo c)∧qS arr clock
def zW (b:Nat) (es:List (κ × Int)) (k:κ) (s:Nat):bA:=.heap fun L=>∃arr clock,L=[(b,.map arr clock)]∧gm arr=es.map (fo c)∧qS arr clock∧∃i v,fL k es 0=some (i,v)∧arr.findIdx? (fun e=>(e.born:Int) == (s:Int))=some i
variable {c}
theorem lC {es:List (κ × Int)} {k:κ} {u v:Int}:bU (bU es k u) k v=bU es k v:=by
 have h0:∀(es:List (κ × Int)) (i j:Nat) (w:Int),fL k es i=some (j,w)→∀u,fL k (es.set (j - i) (k,u)) i=some (j,u)∧i≤j:=fun es=>by
  induction es with
  |nil=>intro i j w h;cases h
  |cons x es ih=>
   intro i j w h u
   obtain ⟨k',w'⟩:=x
   unfold fL at h
   split at h
   ·cases h
    rw[Nat.sub_self,List.set_cons_zero]
    unfold fL
    rw[if_pos rfl]
    exact ⟨rfl,Nat.le_refl _⟩
   ·rename_i hne
    obtain ⟨h1,h2⟩:=ih _ _ _ h u
    have e:j - i=(j - (i+1))+1:=by omega
    rw[e,List.set_cons_succ]
    unfold fL
    rw[if_neg hne]
    exact ⟨h1,by omega⟩
 cases hq:fL k es 0 with
 |none=>
  have hn:bf es k=none:=by unfold bf;rw[hq];rfl
  have h1:bU es k u=es++[(k,u)]:=gS hn u
  rw[h1,gS hn v]
  have h2:∀(es:List (κ × Int)) (i:Nat),fL k es i=none→fL k (es++[(k,u)]) i=some (i+es.length,u):=fun es=>by
   induction es with
   |nil=>intro i _;simp[fL]
   |cons x es ih=>
    intro i h
    obtain ⟨k',w'⟩:=x
    unfold fL at h
    split at h
    ·cases h
    ·rename_i hne
     rw[List.cons_append]
     unfold fL
     rw[if_neg hne,ih _ h,List.length_cons]
     congr 2;omega
  unfold bU
  rw[h2 es 0 hq,Nat.zero_add]
  simp
 |some q=>
  obtain ⟨j,w⟩:=q
  have h1:bU es k u=es.set j (k,u):=by unfold bU;rw[hq]
  have h2:bU es k v=es.set j (k,v):=by unfold bU;rw[hq]
  have h3:=(h0 es 0 j w hq u).1
  rw[h1,h2]
  unfold bU
  rw[Nat.sub_zero] at h3
  rw[h3]
  simp
theorem xM {es:List (κ × Int)} {k:κ} (u:Int):∃j,fL k (bU es k u) 0=some (j,u)∧((fL k es 0=none∧j=es.length)∨∃w,fL k es 0=some (j,w)):=by
 cases hq:fL k es 0 with
 |none=>
  have hn:bf es k=none:=by unfold bf;rw[hq];rfl
  rw[gS hn u]
  have h2:∀(es:List (κ × Int)) (i:Nat),fL k es i=none→fL k (es++[(k,u)]) i=some (i+es.length,u):=fun es=>by
   induction es with
   |nil=>intro i _;simp[fL]
   |cons x es ih=>
    intro i h
    obtain ⟨k',w'⟩:=x
    unfold fL at h
    split at h
    ·cases h
    ·rename_i hne
     rw[List.cons_append]
     unfold fL
     rw[if_neg hne,ih _ h,List.length_cons]
     congr 2;omega
  exact ⟨es.length,by rw[h2 es 0 hq,Nat.zero_add],.inl ⟨rfl,rfl⟩⟩
 |some q=>
  obtain ⟨j,w⟩:=q
  obtain ⟨g1,g2⟩:=gy hq
  have h1:bU es k u=es.set j (k,u):=by unfold bU;rw[hq]
  refine ⟨j,?_,.inr ⟨w,Z⟩⟩
  rw[h1]
  have h3:∀(es:List (κ × Int)) (i j:Nat) (w:Int),fL k es i=some (i+j,w)→fL k (es.set j (k,u)) i=some (i+j,u):=fun es=>by
   induction es with
   |nil=>intro i j w h;cases h
   |cons x es ih=>
    intro i j w h
    obtain ⟨k',w'⟩:=x
    unfold fL at h
    split at h
    ·have e:j=0:=by
      have:=congrArg (fun o=>(o.getD (0,0)).1) h
      simp at this;omega
     subst e
     rw[List.set_cons_zero]
     unfold fL
     rw[if_pos rfl];rfl
    ·rename_i hne
     cases j with
     |zero=>
      rw[qO] at h
      cases h5:fL k es 0 with
      |none=>rw[h5] at h;cases h
      |some q=>rw[h5] at h;simp at h;omega
     |succ j=>
      rw[show i+(j+1)=(i+1)+j by omega] at h ⊢
      rw[List.set_cons_succ]
      unfold fL
      rw[if_neg hne]
      exact ih _ _ _ h
  have:=h3 es 0 j w (by rw[Nat.zero_add];exact hq)
  rwa [Nat.zero_add] at this
section
variable {E:World} {P:Program} {ops:Array Oper} {K:aR→OL→Prop} {env:aR} {O O':OL} {rest:List Oper} {n:Nat}
variable {d ty:Nat} {pos:String} {af:Array Edge} {x y z:Operand} {t u e T kt:TypeId} {b:Nat}
omit [DecidableEq κ] in
theorem az.makeMapT (k:∀b,az P E ops K rest (bq env d (dy b)) ((0,lQ c b [])::O)):az P E ops K (Oper.mk (some d) (.makeMap t none) ty pos af none::rest) env O:=fun I F ρ w h1 ⟨ht,L,hL,hS⟩=>by
 refine qn Z ?_
 unfold jH
 have:(execOp (Go.Proofs.YtdilpodccjlkgaaGreatDoor.ev ρ) (Oper.mk (some d) (.makeMap t none) ty pos af none)).run P w=.ok (.value (.map (some w.heap.size))) (w.alloc (.map #[] 0)):=by
  simp only[execOp,Option.map_none]
  rw[Sem.run_bind,run_makeMap_plain];rfl
 rw[this]
 exact k w.heap.size I F _ _ (h1.upd d rfl) ⟨ht,(w.heap.size,.map #[] 0)::L,⟨[_],L,rfl,⟨#[],0,rfl,rfl,fun x hx=>(by cases hx),List.nodup_nil⟩,hL⟩,hS.alloc _⟩
theorem Gv.lookup1SG {o:bA} {k:κ} {m:Nat} {es:List (κ × Int)} (ho:∀(I:G) A,ml I (m,o) A→∃arr clock,A=[(b,.map arr clock)]∧gm arr=es.map (fo c)) (hk:iJ c P kt) (ht:P.underlying t=some (.map kt u)) (hz:∀w,(zeroValue u).run P w=.ok (.int .i64 0) w) (hx:aV env x=dy b) (hy:aV env y=.agg (c.av k))
  (hO:nF O m o):Gv P env O (Oper.mk (some d) (.lookup t x y false) ty pos af none) (.int .i64 ((bf es k).getD 0)):=fun I L E ρ h1 hL=>by
 obtain ⟨O',hO⟩:=hO
 obtain ⟨A,B,hp,hA,_⟩:=hO.rep hL
 obtain ⟨arr,clock,rfl,hM⟩:=ho _ _ hA
 have hin0:(b,Obj.map arr clock)∈L:=hp.mem_iff.2 (by simp)
 have hx:=fB h1 hx
 have hy2:=h1.ev y
 rw[hy] at hy2
 have hy:=c.one hy2
 refine ⟨.int .i64 ((bf es k).getD 0),Z,fun w J L' hl hS hin=>?_⟩
 have hb:w.heap[b]?=some (Obj.map arr clock):=by
  have:=hS.own _ (hin _ hin0);simpa using this
 have hc:=hk.chk arr.isEmpty k w
 have hf:=lB (w:=w) hk k arr.toList es hM
 have hfin:(bf es k)=(fL k es 0).map (·.2):=rfl
 cases hq:fL k es 0 with
 |none=>
  rw[hq] at hf hfin
  rw[hfin]
  simp[execOp,Instr.lookup,run_underlying ht,hx,hy,MapKept.run_getObj_map hb,hc,hf,hz,Result.andThen]
 |some q=>
  rw[hq] at hf hfin
  rw[hfin]
  simp[execOp,Instr.lookup,run_underlying ht,hx,hy,MapKept.run_getObj_map hb,hc,hf,Result.andThen]
theorem Gv.lookup1ST {k:κ} {m:Nat} {es:List (κ × Int)} (hk:iJ c P kt) (ht:P.underlying t=some (.map kt u)) (hz:∀w,(zeroValue u).run P w=.ok (.int .i64 0) w) (hx:aV env x=dy b) (hy:aV env y=.agg (c.av k))
  (hO:nF O m (lQ c b es)):Gv P env O (Oper.mk (some d) (.lookup t x y false) ty pos af none) (.int .i64 ((bf es k).getD 0)):=
 Gv.lookup1SG (fun I A (h:ml I (m,lQ c b es) A)=>by
  obtain ⟨arr,clock,h1,h2,_⟩:=h
  exact ⟨arr,clock,h1,h2⟩) hk ht hz hx hy hO
theorem BE {es:List (κ × Int)} {k:κ}:(bf (bU es k ((bf es k).getD 0)) k).getD 0=(bf es k).getD 0:=by
 obtain ⟨j,h,_⟩:=xM (es:=es) (k:=k) ((bf es k).getD 0)
 rw[show bf (bU es k ((bf es k).getD 0)) k=some ((bf es k).getD 0) by unfold bf at h ⊢;rw[h];rfl];rfl
theorem Gv.lookup1SE {k:κ} {m s:Nat} {es:List (κ × Int)} (hk:iJ c P kt) (ht:P.underlying t=some (.map kt u)) (hz:∀w,(zeroValue u).run P w=.ok (.int .i64 0) w) (hx:aV env x=dy b) (hy:aV env y=.agg (c.av k))
  (hO:nF O m (zW c b (bU es k ((bf es k).getD 0)) k s)):Gv P env O (Oper.mk (some d) (.lookup t x y false) ty pos af none) (.int .i64 ((bf es k).getD 0)):=by
 have h:=Gv.lookup1SG (P:=P) (env:=env) (O:=O) (d:=d) (ty:=ty) (pos:=pos) (af:=af) (es:=bU es k ((bf es k).getD 0)) (k:=k) (fun I A (h:ml I (m,zW c b (bU es k ((bf es k).getD 0)) k s) A)=>by
  obtain ⟨arr,clock,h1,h2,_⟩:=h
  exact ⟨arr,clock,h1,h2⟩) hk ht hz hx hy hO
 rw[BE] at h
 exact h
theorem vK (a:Array MapEntry) (p:MapEntry→Bool):a.findIdx? p=a.toList.findIdx? p:=by cases a;simp
theorem qT {l:List MapEntry} (hn:(l.map (·.born)).Nodup) {j:Nat} {x:MapEntry} (h:l[j]?=some x):l.findIdx? (fun e=>(e.born:Int) == (x.born:Int))=some j:=by
 rw[List.findIdx?_eq_some_iff_getElem]
 obtain ⟨hj,e⟩:=List.getElem?_eq_some_iff.1 h
 refine ⟨hj,by simp[e],fun i hi=>?_⟩
 simp only[Bool.not_eq_true,beq_eq_false_iff_ne,ne_eq]
 intro he
 have he:(l[i]'(by omega)).born=x.born:=by exact_mod_cast he
 rw[List.nodup_iff_pairwise_ne] at hn
 have h5:=List.pairwise_iff_getElem.1 hn i j (by rw[w1];omega) (by rw[w1];omega) hi
 rw[List.getElem_map,List.getElem_map,e] at h5
 exact h5 he
omit [DecidableEq κ] in
theorem BF {arr:Array MapEntry} {es:List (κ × Int)} {j:Nat} {k:κ} {v:Int} (h:gm arr=es.map (fo c)) (hj:es[j]?=some (k,v)):gm (arr.modify j fun e=>{ e with key:=.agg (c.val k) })=es.map (fo c):=by
 unfold gm at h ⊢
 refine List.ext_getElem? fun q=>?_
 have h2:=congrArg (fun l=>l[q]?) h
 simp only[w2,Array.getElem?_toList] at h2
 rw[w2,w2,Array.getElem?_toList,Array.getElem?_modify,←h2]
 by_cases hq:j=q
 ·subst hq
  rw[if_pos rfl]
  rw[hj] at h2
  cases he:arr[j]? with
  |none=>rfl
  |some e0=>
   rw[he] at h2
   simp only[Option.map_some,Option.some.injEq,fo,Prod.mk.injEq] at h2
   simp[h2.1]
 ·rw[if_neg hq]
omit [DecidableEq κ] in
theorem BG {arr:Array MapEntry} {es:List (κ × Int)} {j:Nat} {k:κ} {v u0:Int} (h:gm arr=es.map (fo c)) (hj:es[j]?=some (k,u0)):gm (arr.modify j fun e=>{ e with val:=.int .i64 v })=(es.set j (k,v)).map (fo c):=by
 unfold gm at h ⊢
 refine List.ext_getElem? fun q=>?_
 have h2:=congrArg (fun l=>l[q]?) h
 simp only[w2,Array.getElem?_toList] at h2
 rw[w2,w2,Array.getElem?_toList,Array.getElem?_modify]
 by_cases hq:j=q
 ·subst hq
  rw[if_pos rfl,List.getElem?_set_self (List.getElem?_eq_some_iff.1 hj).1]
  rw[hj] at h2
  cases he:arr[j]? with
  |none=>rw[he] at h2;cases h2
  |some e0=>
   rw[he] at h2
   simp only[Option.map_some,Option.some.injEq,fo,Prod.mk.injEq] at h2
   simp[fo,h2.1]
 ·rw[if_neg hq,List.getElem?_set_ne hq,←h2]
omit [DecidableEq κ] in
theorem n6 {arr:Array MapEntry} {clock i:Nat} {g:MapEntry→MapEntry} (h:qS arr clock) (hg:∀e,(g e).born=e.born):qS (arr.modify i g) clock∧(arr.modify i g).toList.map (·.born)=arr.toList.map (·.born):=by
 have e:(arr.modify i g).toList.map (·.born)=arr.toList.map (·.born):=by
  refine List.ext_getElem? fun q=>?_
  rw[w2,w2,Array.getElem?_toList,Array.getElem?_toList,Array.getElem?_modify]
  split
  ·cases arr[q]? with
   |none=>rfl
   |some e0=>simp[hg]
  ·rfl
 refine ⟨⟨fun x hx=>?_,by rw[e];exact h.2⟩,e⟩
 have h1:x.born∈arr.toList.map (·.born):=by rw[←e];exact List.mem_map.2 ⟨x,hx,rfl⟩
 obtain ⟨y,hy,hyx⟩:=List.mem_map.1 h1
 rw[←hyx];exact h.1 y hy
theorem az.mapEntryS {k:κ} {m:Nat} {es:List (κ × Int)} {O':Nat→OL} (hk:iJ c P kt) (ht:P.underlying t=some (.map kt u)) (hz:∀w,(zeroValue u).run P w=.ok (.int .i64 0) w) (hx:aV env x=dy b) (hy:aV env y=.agg (c.av k))
  (hO:∀s:Nat,fR O m (lQ c b es) (zW c b (bU es k ((bf es k).getD 0)) k s) (O' s))
  (kk:∀s:Nat,az P E ops K rest (bq env d (.tup [.int .i64 ((bf es k).getD 0),.int .i64 (s:Int)])) (O' s)):az P E ops K (Oper.mk (some d) (.mapEntry t x y) ty pos af none::rest) env O:=fun I F ρ w h1 ⟨htop,L,hL,hS⟩=>by
 have hx:=fB h1 hx
 have hy2:=h1.ev y
 rw[hy] at hy2
 have hy2:=c.one hy2
 obtain ⟨A0,B0,hp0,⟨arr,clock,rfl,he,hB⟩,_⟩:=(hO 0).rep hL
 have hS2:SL I.k ((b,.map arr clock)::(B0++F)) E w:=hS.perm ((hp0.append_right F).symm)
 have hb:=hS2.own _ (.head _)
 simp only at hb
 have hc:=hk.chk false k w
 have hf:=lB (w:=w) hk k arr.toList es he
 have fin:∀(arr':Array MapEntry) (clock' s:Nat),gm arr'=(bU es k ((bf es k).getD 0)).map (fo c)→qS arr' clock'→(∃i v,fL k (bU es k ((bf es k).getD 0)) 0=some (i,v)∧arr'.findIdx? (fun e=>(e.born:Int) == (s:Int))=some i) →
   (execOp (Go.Proofs.YtdilpodccjlkgaaGreatDoor.ev ρ) (Oper.mk (some d) (.mapEntry t x y) ty pos af none)).run P w=.ok (.value (.tuple #[.int .i64 ((bf es k).getD 0),.int .i64 (s:Int)])) { w with heap:=w.heap.setIfInBounds b (.map arr' clock') }→bZ P ops (ir I F E K) (Oper.mk (some d) (.mapEntry t x y) ty pos af none::rest) ρ w:=fun arr' clock' s he' hB' hfi hrun=>by
  refine qn Z ?_
  unfold jH
  rw[hrun]
  obtain ⟨A,B,hp,⟨arr2,clock2,rfl,_,_⟩,hback⟩:=(hO s).rep hL
  have hS1:SL I.k ((b,.map arr2 clock2)::(B++F)) E w:=hS.perm ((hp.append_right F).symm)
  have hb1:=hS1.own _ (.head _)
  simp only at hb1
  rw[hb] at hb1
  cases hb1
  obtain ⟨L',h7,h8⟩:=hback (qf I) (A':=[(b,.map arr' clock')]) ⟨arr',clock',rfl,he',hB',hfi⟩
  have hh:=MapKept.heap_set (o':=.map arr' clock') hb
  have hS3:SL I.k ((b,.map arr' clock')::(B++F)) E { w with heap:=w.heap.setIfInBounds b (.map arr' clock') }:=hS1.turn rfl rfl rfl hh.1 hh.2
  exact kk s I F _ _ (h1.upd d ⟨[_,_],rfl,_,_,rfl,rfl,_,_,rfl,rfl,rfl⟩) ⟨htop,L',h7,hS3.perm (h8.append_right F)⟩
 cases hq:fL k es 0 with
 |none=>
  rw[hq] at hf
  have hg:bf es k=none:=by unfold bf;rw[hq];rfl
  have hl:arr.toList.length=es.length:=by have:=congrArg List.length he;unfold gm at this;simpa using this
  refine fin (arr.push { key:=.agg (c.val k),val:=.int .i64 0,born:=clock }) (clock+1) clock ?_ ?_ ?_ ?_
  ·rw[gS hg,hg]
   unfold gm at *
   simp only[Array.toList_push,w5,he];rfl
  ·refine ⟨fun x hx=>?_,?_⟩
   ·rw[Array.toList_push] at hx
    rcases List.mem_append.1 hx with hx|hx
    ·have:=hB.1 x hx;omega
    ·rw[List.mem_singleton.1 hx];exact Nat.lt_succ_self _
   ·rw[Array.toList_push,w5,List.nodup_append]
    refine ⟨hB.2,by simp,fun a ha q hq' e=>?_⟩
    obtain ⟨z,hz1,rfl⟩:=List.mem_map.1 ha
    simp at hq'
    have:=hB.1 z hz1
    omega
  ·obtain ⟨j,h5,h6⟩:=xM (es:=es) (k:=k) ((bf es k).getD 0)
   refine ⟨j,_,h5,?_⟩
   have hj:j=es.length:=by
    rcases h6 with h6|⟨w0,h6⟩
    ·exact h6.2
    ·rw[hq] at h6;cases h6
   rw[vK,Array.toList_push,hj,←hl]
   have:=qT (l:=arr.toList++[{ key:=.agg (c.val k),val:=.int .i64 0,born:=clock }]) (j:=arr.toList.length) (x:={ key:=.agg (c.val k),val:=.int .i64 0,born:=clock }) (by
    rw[w5,List.nodup_append]
    refine ⟨hB.2,by simp,fun a ha q hq' e=>?_⟩
    obtain ⟨z,hz1,rfl⟩:=List.mem_map.1 ha
    simp at hq'
    have:=hB.1 z hz1
    omega) (by simp)
   exact this
  ·rw[hg]
   simp[execOp,hx,hy2,Instr.mapEntry,run_underlying ht,MapKept.run_getObj_map hb,hc,hf,hz,MapKept.run_setObj_map _ hb,Result.andThen,goInt]
 |some q=>
  obtain ⟨j,u0⟩:=q
  rw[hq] at hf
  have hg:bf es k=some u0:=by unfold bf;rw[hq];rfl
  obtain ⟨g1,_⟩:=gy hq
  have hj:=(List.getElem?_eq_some_iff.1 g1).1
  have hl:arr.toList.length=es.length:=by have:=congrArg List.length he;unfold gm at this;simpa using this
  obtain ⟨e0,he0⟩:∃e,arr[j]?=some e:=⟨_,Array.getElem?_eq_getElem (by rw[←Array.length_toList];omega)⟩
  have hek:e0.key=.agg (c.val k):=by
   have:=congrArg (fun l=>l[j]?) he
   unfold gm at this
   simp only[w2,Array.getElem?_toList,he0,g1,Option.map_some,Option.some.injEq,fo,Prod.mk.injEq] at this
   exact this.1
  have hsame:bU es k ((bf es k).getD 0)=es:=by
   unfold bU;rw[hq,hg]
   refine List.ext_getElem? fun q=>?_
   by_cases e:j=q
   ·subst e;rw[List.getElem?_set_self hj,g1];rfl
   ·rw[List.getElem?_set_ne e]
  have hbm:=n6 (i:=j) (g:=fun e=>{ e with key:=.agg (c.val k) }) hB (fun _=>rfl)
  refine fin (arr.modify j fun e=>{ e with key:=.agg (c.val k) }) clock e0.born ?_ hbm.1 ?_ ?_
  ·rw[hsame];exact BF he g1
  ·rw[hsame]
   refine ⟨j,u0,hq,?_⟩
   rw[vK]
   refine qT (x:={ e0 with key:=.agg (c.val k) }) hbm.1.2 ?_
   rw[Array.getElem?_toList,Array.getElem?_modify,if_pos rfl,he0];rfl
  ·rw[hg]
   simp[execOp,hx,hy2,Instr.mapEntry,run_underlying ht,MapKept.run_getObj_map hb,hc,hf,MapKept.run_setObj_map _ hb,Result.andThen,he0,hek,Dx,goInt]
theorem az.entryStoreS {k:κ} {m s:Nat} {v:Int} {es:List (κ × Int)} (hx:aV env x=dy b) (hy:aV env y=.int .i64 (s:Int)) (hz:aV env z=.int .i64 v) (hO:fR O m (zW c b es k s) (lQ c b (bU es k v)) O')
  (kk:az P E ops K rest env O'):az P E ops K (Oper.mk none (.entryStore t x y z) ty pos af none::rest) env O:=fun I F ρ w h1 ⟨htop,L,hL,hS⟩=>by
 have hx:=fB h1 hx
 have hy:=fK h1 hy
 have hz:=fK h1 hz
 obtain ⟨A,B,hp,⟨arr,clock,rfl,he,hB,i,u0,hq,hfi⟩,hback⟩:=hO.rep hL
 have hS2:SL I.k ((b,.map arr clock)::(B++F)) E w:=hS.perm ((hp.append_right F).symm)
 have hb:=hS2.own _ (.head _)
 simp only at hb
 obtain ⟨g1,_⟩:=gy hq
 have hrun:(execOp (Go.Proofs.YtdilpodccjlkgaaGreatDoor.ev ρ) (Oper.mk none (.entryStore t x y z) ty pos af none)).run P w=.ok .skip { w with heap:=w.heap.setIfInBounds b (.map (arr.modify i fun e=>{ e with val:=.int .i64 v }) clock) }:=by
  simp[execOp,hx,hy,hz,Instr.entryStore,MapKept.run_getObj_map hb,asInt,asIntOf,hfi,MapKept.run_setObj_map _ hb,Result.andThen]
 refine qn Z ?_
 unfold jH
 rw[hrun]
 have hbm:=n6 (i:=i) (g:=fun e=>{ e with val:=.int .i64 v }) hB (fun _=>rfl)
 obtain ⟨L',h7,h8⟩:=hback (qf I) (A':=[(b,.map (arr.modify i fun e=>{ e with val:=.int .i64 v }) clock)]) ⟨_,clock,rfl,by unfold bU;rw[hq];exact BG he g1,hbm.1⟩
 have hh:=MapKept.heap_set (o':=.map (arr.modify i fun e=>{ e with val:=.int .i64 v }) clock) hb
 have hS3:SL I.k ((b,.map (arr.modify i fun e=>{ e with val:=.int .i64 v }) clock)::(B++F)) E { w with heap:=w.heap.setIfInBounds b (.map (arr.modify i fun e=>{ e with val:=.int .i64 v }) clock) }:=hS2.turn rfl rfl rfl hh.1 hh.2
 exact kk I F ρ _ h1 ⟨htop,L',h7,hS3.perm (h8.append_right F)⟩
end
end
end Go.Proofs.YtdilpodccjlkgaaGreatDoor
namespace Go.Proofs.YtdilpodccjlkgaaGreatDoor
open Go.Proofs.Tryz
def nz (x:aF):Bool:=decide (18≤x.op∧x.op≤24)
section
variable {f:ac} (hD:∀b∈f.blocks,∀x∈b.insts,nz x=true→x.dst<0)
include hD
end
section
variable {f:ac}
end
end Go.Proofs.YtdilpodccjlkgaaGreatDoor
namespace Go.Proofs.YtdilpodccjlkgaaGreatDoor
open Go.Proofs.Tryz
theorem BH {α β:Type} {g:Nat→α→β} {d:β} {n:Nat} {l:List α} {v:Nat} (hl:l.length≤v) (hv:v<n):(dP g d n l)[v]?=some d:=by
 unfold dP
 rw[List.getElem?_append_right (by simpa using hl),List.getElem?_replicate,if_pos (by simp;omega)]
section
variable {f:ac} (hR:b5 f)
include hR
theorem gx.beg {i:zJ} (hp:f.params.length≤f.vars.length) (ht:∀j,0≤nW f j∧nW f j≤2) (hi:fO f i=0) (h64:Bq i):gx f (rL f i):=by
 obtain ⟨g,_⟩:=bn.beg hR.run hp ht hi h64
 have hG:=hR.hE.grph
 have hal:i.args.length=f.params.length:=by
  unfold fO at hi
  split at hi
  ·cases hi
  ·rename_i h;exact Classical.not_not.1 h
 have hr:∀r∈i.arrays,r.length≤64:=by
  unfold fO at hi
  split at hi
  ·cases hi
  split at hi
  ·cases hi
  split at hi
  ·cases hi
  split at hi
  ·cases hi
  rename_i h
  intro r hr
  refine Classical.byContradiction fun hn=>h ?_
  exact List.any_eq_true.2 ⟨r,hr,w8 (by omega)⟩
 refine ⟨g,hr,fun v h1 h2 h3=>?_,fun j k x hx ha=>?_,fun c p hd hp hk ht=>?_⟩
 ·show vi (rL f i).ints v=0
  unfold vi rL
  dsimp only
  rw[BH (by omega) (by omega)];rfl
 ·have ha:cY f ((j:Int),(k:Int)) 0 0:=ha
  rcases ha with h|⟨_,h⟩|⟨_,h,h3⟩
  ·dsimp only at h;omega
  ·dsimp only at h;omega
  ·exact absurd (fk hG h3 (.root h3.rch)) h
 ·have hd:gJ (ah f) c 0:=hd
  have:=fk hG hd (.root hd.rch)
  subst this
  exact absurd rfl (hR.one hd.rch hp).1
theorem vL:∀(n:Nat) (s:GS),gx f s→s.ended=false→((ic f n s).ended=false∧gx f (ic f n s))∨∃m,m<n∧gx f (ic f m s)∧(ic f m s).ended=false∧ic f n s=dn f (ic f m s)∧(ic f n s).ended=true
 |0,s,h,he=>.inl ⟨he,h⟩
 |n+1,s,h,he=>by
  have hst:∀k,ic f (k+1) s=ic f k (dn f s):=fun k=>by rw[ic,if_neg (by rw[he];decide)]
  cases h2:(dn f s).ended with
  |true=>exact .inr ⟨0,by omega,h,he,by rw[hst,sF h2];rfl,by rw[hst,sF h2];exact h2⟩
  |false=>
   rcases vL n _ (h.step hR he h2) h2 with h3|⟨m,h3,h4,h5,h6,h7⟩
   ·rw[hst];exact .inl h3
   ·refine .inr ⟨m+1,by omega,?_⟩
    rw[hst,hst];exact ⟨h4,h5,h6,h7⟩
end
end Go.Proofs.YtdilpodccjlkgaaGreatDoor
namespace Go.Proofs.YtdilpodccjlkgaaGreatDoor
open Go.Proofs.Tryz
def vM (f:ac):KS→List aF→List Bool
 |_,[]=>[]
 |K,x::l=>(if nz x=true then[ox f K x] else[])++vM f (ec f K x) l
def jY (f:ac) (b:Int):KS:=nY f (vE f (Eb f b).tail) b
def Hj (f:ac) (b:Int):List Bool:=vM f (jY f b) (bT f b).insts
def Ik (f:ac):List Bool:=(bx f.blocks.length).flatMap (Hj f)
def HW (l:List aF):Nat:=(l.filter nz).length
theorem tL (f:ac):∀(l:List aF) (K:KS),(vM f K l).length=HW l
 |[],_=>rfl
 |x::l,K=>by
  unfold vM HW
  rw[qz,tL f l,List.filter_cons]
  unfold HW
  split<;>simp<;>omega
theorem Fk {f:ac} {i:Nat} {b:aX} (h:f.blocks[i]?=some b):(Hj f (i:Int)).length=HW b.insts:=by
 unfold Hj;rw[tL,dQ h]
end Go.Proofs.YtdilpodccjlkgaaGreatDoor
namespace Go.Proofs.YtdilpodccjlkgaaGreatDoor
open Go.Proofs.Tryz
abbrev K4:=Int × Int × Int × Int
def k4 (k:K4):List AV:=[.int .i64 k.1,.int .i64 k.2.1,.int .i64 k.2.2.1,.int .i64 k.2.2.2]
def v4 (k:K4):Value:=.agg #[.int .i64 k.1,.int .i64 k.2.1,.int .i64 k.2.2.1,.int .i64 k.2.2.2]
def kf (k:K4):List (K4 × Int)→Nat→Option (Nat × Int)
 |[],_=>none
 |(k',v)::es,i=>if k=k' then some (i,v) else kf k es (i+1)
section
variable {P:Program} {kt:TypeId} {w:World}
end
section
variable {E:World} {P:Program} {ops:Array Oper} {K:aR→OL→Prop} {env:aR} {O O' O'':OL} {rest:List Oper} {n:Nat}
variable {d ty:Nat} {pos:String} {af:Array Edge} {x y z:Operand} {t u e T kt:TypeId} {b:Nat}
end
end Go.Proofs.YtdilpodccjlkgaaGreatDoor
namespace Go.Proofs.YtdilpodccjlkgaaGreatDoor
open Go.Proofs.Tryz
def IB (x:aF):Int:=if 0<x.args.length then (x.args[0]?).getD 0 else -1
def IC (x:aF):Int:=if 1<x.args.length then (x.args[1]?).getD 0 else -1
def HX (x:aF):K4:=if HL x.op=true∧IC x<IB x then (x.op,x.num,IC x,IB x) else (x.op,x.num,IB x,IC x)
structure ID (f:ac) (r:Int→Int):Prop where
 same:∀i k x j q y,jW f i k x→jW f j q y→(HX (vC r x)=HX (vC r y)↔De (vC r x) (vC r y)=true)
section
variable {f:ac} {r:Int→Int} {rk:Nat→Nat→Nat} (hH:Iz f rk) (hr:HM f r) (hK:ID f r)
include hH hr hK
end
end Go.Proofs.YtdilpodccjlkgaaGreatDoor
namespace Go.Proofs.YtdilpodccjlkgaaGreatDoor
open Go.Proofs.Tryz
section
variable {S:Int→List Int} {n:Nat} (hG:fT S n)
def d6 (S:Int→List Int) (n:Nat) (i:Int):List Int:=(bx n).filter fun c=>decide (gi (bh S n) c≠-1)&&decide (gi (bh S n) c=i)
include hG
theorem qU {i c:Int} (hall:∀j:Int,0≤j→j<n→j∈aB S n) (hi:0≤i):c∈d6 S n i↔(0≤c∧c<n)∧c≠0∧gi (bt S n) c=i:=by
 unfold d6
 simp only[List.mem_filter,wa,wg,cK]
 constructor
 ·rintro ⟨⟨h0,h1⟩,h2,h3⟩
  have hc:c≠0:=fun e=>by rw[e,oL hG.npos] at h2;exact h2 rfl
  exact ⟨⟨h0,h1⟩,hc,by rw[er h0 hc] at h3;exact h3⟩
 ·rintro ⟨⟨h0,h1⟩,hc,h3⟩
  refine ⟨⟨h0,h1⟩,?_,by rw[er h0 hc];exact h3⟩
  rw[er h0 hc,h3];omega
theorem lD {i c:Int} (hall:∀j:Int,0≤j→j<n→j∈aB S n) (hi:0≤i) (h:c∈d6 S n i):(∀j,gJ S j c↔j=c∨gJ S j i)∧i∈aB S n∧c∈aB S n∧gi (bO S n) c=gi (bO S n) i+1:=by
 obtain ⟨⟨h0,h1⟩,hc,hN⟩:=(qU hG hall hi).1 h
 have hco:=hall c h0 h1
 obtain ⟨g1,g2⟩:=hG.near_mem hco hc
 rw[hN] at g1
 have hl:=hG.lev_near hco hc
 rw[hN] at hl
 refine ⟨fun j=>?_,g1,hco,hl⟩
 rw[hG.dom_iff hco,hG.dom_iff g1]
 constructor
 ·intro ha
  rcases ha.cases' with e|⟨_,_,h3⟩
  ·exact .inl e
  ·rw[hN] at h3;exact .inr h3
 ·rintro (rfl|ha)
  ·exact .refl _
  ·exact .up hc (hG.exact.has c hco) (by rw[hN];exact ha)
theorem tM {i c:Int} (hall:∀j:Int,0≤j→j<n→j∈aB S n) (hi:0≤i) (h:c∈d6 S n i):¬gJ S c i∧c≠i:=by
 obtain ⟨h1,h2,h3,h4⟩:=lD hG hall hi h
 refine ⟨fun hd=>?_,fun e=>by rw[e] at h4;omega⟩
 have:=(hG.lev_anc h2 ((hG.dom_iff h2).1 hd)).2.1
 omega
theorem BI {i c d j:Int} (hall:∀j:Int,0≤j→j<n→j∈aB S n) (hi:0≤i) (h:c∈d6 S n i) (k:d∈d6 S n i) (hne:c≠d) (h1:gJ S c j) (h2:gJ S d j):False:=by
 rcases Bu hG h1 h2 with h3|h3
 ·rcases ((lD hG hall hi h).1 d).1 h3 with e|e
  ·exact hne e.symm
  ·exact (tM hG hall hi k).1 e
 ·rcases ((lD hG hall hi k).1 c).1 h3 with e|e
  ·exact hne e
  ·exact (tM hG hall hi h).1 e
theorem Dy {i j:Int} (hall:∀j:Int,0≤j→j<n→j∈aB S n) (hi:0≤i) (hj:j∈aB S n):gJ S i j↔j=i∨∃c∈d6 S n i,gJ S c j:=by
 constructor
 ·intro h
  have ha:=(hG.dom_iff hj).1 h
  clear h
  induction ha with
  |refl x=>exact .inl rfl
  |@up x a hx hN ht ih=>
   have hr:=de hG.toEOk hj
   obtain ⟨g1,_⟩:=hG.near_mem hj hx
   right
   rcases ih hi g1 with e|⟨c,hc,hd⟩
   ·exact ⟨x,(qU hG hall hi).2 ⟨hr,hx,e⟩,⟨(bP hG.toEOk x).1 hj,fun hw=>hw.end_ rfl⟩⟩
   ·exact ⟨c,hc,(hG.dom_iff hj).2 (.up hx hN ((hG.dom_iff g1).1 hd))⟩
 ·rintro (rfl|⟨c,hc,hd⟩)
  ·exact ⟨(bP hG.toEOk j).1 hj,fun hw=>hw.end_ rfl⟩
  ·obtain ⟨h1,h2,h3,_⟩:=lD hG hall hi hc
   have hic:=(h1 i).2 (.inr ⟨(bP hG.toEOk i).1 h2,fun hw=>hw.end_ rfl⟩)
   exact (hG.dom_iff hj).2 (((hG.dom_iff hj).1 hd).trans ((hG.dom_iff h3).1 hic))
omit hG in
theorem xN (i:Int):(d6 S n i).Nodup:=by
 unfold d6
 refine List.Nodup.sublist List.filter_sublist ?_
 unfold bx List.Nodup
 rw[List.pairwise_map]
 exact List.Pairwise.imp (fun h e=>h (Int.ofNat.inj e)) (List.nodup_range (n:=n))
end
end Go.Proofs.YtdilpodccjlkgaaGreatDoor
namespace Go.Proofs.YtdilpodccjlkgaaGreatDoor
open Go.Proofs.Tryz
def cq {α:Type} (p:α→Bool) (l:List α) (k:Nat):Nat:=((l.take k).filter p).length
end Go.Proofs.YtdilpodccjlkgaaGreatDoor
namespace Go.Proofs.YtdilpodccjlkgaaGreatDoor
open Go.Proofs.Tryz
def Dk (V:Int→Bool) (i k:Nat):gA→Bool:=fun m=>V m.1||(decide (m.1=(i:Int))&&decide (m.2<(k:Int)))
def GR (f:ac) (V:Int→Bool) (i:Int):Prop:=(∀j,gJ (ah f) j i→j≠i→V j=true)∧∀j,gJ (ah f) i j→V j=false
section
variable {f:ac} (hG:fT (ah f) f.blocks.length) (hall:∀j:Int,0≤j→j<f.blocks.length→j∈aB (ah f) f.blocks.length)
def ig (f:ac) (V:Int→Bool) (i:Int) (l:List Int):Int→Bool:=fun j=>(V j||decide (j=i))||l.any fun c=>fM (ah f) f.blocks.length c j
include hG hall
theorem Fl {V:Int→Bool} {i:Int} (hi:0≤i) (hV:GR f V i) {l:List Int} {q:Nat} (hq:q<l.length) (hk:∀c∈l,c∈d6 (ah f) f.blocks.length i) (hn:l.Nodup):GR f (ig f V i (l.take q)) l[q]:=by
 have hc:=hk _ (qx hq)
 obtain ⟨h1,h2,h3,h4⟩:=lD hG hall hi hc
 obtain ⟨g1,g2⟩:=tM hG hall hi hc
 refine ⟨fun j hj hne=>?_,fun j hj=>?_⟩
 ·unfold ig
  rcases (h1 j).1 hj with e|hd
  ·exact absurd e hne
  ·by_cases e:j=i
   ·simp[e]
   ·rw[hV.1 j hd e];simp
 ·unfold ig
  have hi2:gJ (ah f) i l[q]:=(h1 i).2 (.inr (.refl ((bP hG.toEOk i).1 h2)))
  have e1:V j=false:=hV.2 j (hi2.trans hj)
  have e2:j≠i:=fun e=>g1 (by rw[←e];exact hj)
  rw[e1]
  simp only[Bool.false_or,Bool.or_eq_false_iff,decide_eq_false_iff_not,List.any_eq_false]
  refine ⟨e2,fun c hcm hd=>?_⟩
  obtain ⟨p,hp,e⟩:=List.getElem_of_mem hcm
  rw[w7] at hp
  rw[List.getElem_take] at e
  have hne:c≠l[q]:=fun e3=>by
   have:=(List.getElem_inj hn).1 (e.trans e3)
   omega
  exact BI hG hall hi (hk c (List.mem_of_mem_take hcm)) hc hne ((hG.domB_iff c j).1 hd) hj
omit hG hall in
theorem vN {V:Int→Bool} {i:Int} {l:List Int} {q:Nat} (hq:q<l.length) (j:Int):(ig f V i (l.take q) j||fM (ah f) f.blocks.length l[q] j)=ig f V i (l.take (q+1)) j:=by
 unfold ig
 rw[qu hq,List.any_append];simp[Bool.or_assoc]
theorem zX {V:Int→Bool} {i:Int} (hi:0≤i) {j:Int} (h0:0≤j) (h1:j<f.blocks.length):ig f V i (d6 (ah f) f.blocks.length i) j=(V j||fM (ah f) f.blocks.length i j):=by
 unfold ig
 rw[Bool.or_assoc]
 congr 1
 rw[w3,hG.domB_iff,Dy hG hall hi (hall j h0 h1)]
 simp only[Bool.or_eq_true,wg,List.any_eq_true]
 refine or_congr Iff.rfl ⟨fun ⟨c,h2,h3⟩=>⟨c,h2,(hG.domB_iff c j).1 h3⟩,fun ⟨c,h2,h3⟩=>⟨c,h2,(hG.domB_iff c j).2 h3⟩⟩
end
end Go.Proofs.YtdilpodccjlkgaaGreatDoor
namespace Go.Proofs.YtdilpodccjlkgaaGreatDoor
open Go.Proofs.Tryz
section
variable {E:Int→List Int} {n:Nat} (hE:fT E n)
include hE
theorem qV:∀(k m:Nat) (b:Int),b∈aB E n→gi (bO E n) b<k→gi (bO E n) b<m→cZ (bt E n) k b=cZ (bt E n) m b
 |0,_,b,hb,hk,_=>by have:=hE.lev_nn hb;omega
 |_,0,b,hb,_,hk=>by have:=hE.lev_nn hb;omega
 |k+1,m+1,b,hb,hk,hm=>by
  unfold cZ
  by_cases h0:b=0
  ·rw[if_pos h0,if_pos h0]
  ·rw[if_neg h0,if_neg h0]
   obtain ⟨g1,_⟩:=hE.near_mem hb h0
   have hl:=hE.lev_near hb h0
   rw[qV k m _ g1 (by omega) (by omega)]
end
section
variable {f:ac} (hR:b5 f)
include hR
theorem Fm {i c:Int} (hc:0≤c∧c<f.blocks.length) (h0:c≠0) (hn:gi (bt (ah f) f.blocks.length) c=i):vE f (Eb f c).tail=xB f (jY f i) i:=by
 have hG:=hR.hE.grph
 obtain ⟨cn,rfl⟩:∃cn:Nat,c=(cn:Int):=⟨c.toNat,by omega⟩
 have hm:=(bP hG.toEOk (cn:Int)).2 (hR.hs.2.1 cn (by omega))
 have hlv:=hR.lev (i:=cn) (by omega)
 have hnl:=hG.lev_near hm h0
 obtain ⟨g1,_⟩:=hG.near_mem hm h0
 rw[hn] at hnl g1
 have hi0:=hG.lev_nn g1
 unfold Eb
 obtain ⟨m,hm2⟩:∃m,f.blocks.length=m+1:=⟨f.blocks.length - 1,by omega⟩
 have e1:cZ (bt (ah f) f.blocks.length) f.blocks.length (cn:Int)=(cn:Int)::cZ (bt (ah f) f.blocks.length) m i:=by
  conv=>lhs;rw[show cZ (bt (ah f) f.blocks.length) f.blocks.length (cn:Int)=cZ (bt (ah f) f.blocks.length) (m+1) (cn:Int) from by rw[←hm2]]
  show (cn:Int)::(if (cn:Int)=0 then[] else cZ (bt (ah f) f.blocks.length) m (gi (bt (ah f) f.blocks.length) (cn:Int)))=_
  rw[if_neg h0,hn]
 rw[e1,List.tail_cons,qV hG m f.blocks.length i g1 (by omega) (by omega)]
 unfold jY Eb
 have e2:cZ (bt (ah f) f.blocks.length) f.blocks.length i=i::(cZ (bt (ah f) f.blocks.length) f.blocks.length i).tail:=by
  conv=>lhs;rw[show cZ (bt (ah f) f.blocks.length) f.blocks.length i=cZ (bt (ah f) f.blocks.length) (m+1) i from by rw[←hm2]]
  conv=>rhs;rw[show cZ (bt (ah f) f.blocks.length) f.blocks.length i=cZ (bt (ah f) f.blocks.length) (m+1) i from by rw[←hm2]]
  rfl
 rw[e2];rfl
theorem Dz:vE f (Eb f 0).tail=dF f:=by
 have:=hR.run.pos
 unfold Eb
 obtain ⟨m,hm2⟩:∃m,f.blocks.length=m+1:=⟨f.blocks.length - 1,by omega⟩
 rw[show cZ (bt (ah f) f.blocks.length) f.blocks.length 0=cZ (bt (ah f) f.blocks.length) (m+1) 0 from by rw[←hm2]]
 unfold cZ
 rw[if_pos rfl];rfl
end
def jA (f:ac) (i:Int):Int:=if (bT f i).term.kind=1 then fm f (xB f (jY f i) i) 100000 (bT f i).term.var else 0
def fy (f:ac) (V:Int→Bool):List Int:=(bx f.blocks.length).map fun j=>if V j=true then jA f j else 0
theorem fp (f:ac) (V:Int→Bool):(fy f V).length=f.blocks.length:=by unfold fy;rw[w1,bS]
theorem mT {f:ac} {V:Int→Bool} {j:Nat} (h:j<f.blocks.length):(fy f V)[j]?=some (if V (j:Int)=true then jA f (j:Int) else 0):=by
 unfold fy;rw[w2,eM h];rfl
theorem DA {f:ac} {V W:Int→Bool} {i:Nat} (hi:i<f.blocks.length) (h1:W (i:Int)=true) (h2:∀j:Int,j≠i→W j=V j):(fy f V).set i (jA f (i:Int))=fy f W:=by
 refine List.ext_getElem? fun j=>?_
 by_cases e:i=j
 ·subst e
  rw[List.getElem?_set_self (by rw[fp];exact hi),mT hi,if_pos h1]
 ·rw[List.getElem?_set_ne e]
  by_cases hj:j<f.blocks.length
  ·rw[mT hj,mT hj,h2 _ (by omega)]
  ·rw[List.getElem?_eq_none (by rw[fp];omega),List.getElem?_eq_none (by rw[fp];omega)]
theorem xO {f:ac} {V W:Int→Bool} (h:∀j:Int,0≤j→j<f.blocks.length→V j=W j):fy f V=fy f W:=by
 unfold fy
 exact List.map_congr_left fun j hj=>by rw[h j (cK.1 hj).1 (cK.1 hj).2]
def kZ (f:ac) (m:gA):Bool:=decide (0≤m.1∧0≤m.2)&&match (bT f m.1).insts[m.2.toNat]? with|some x=>nz x&&ox f (B6 f m.1 m.2.toNat) x|none=>false
def gF (f:ac) (D:gA→Bool) (T:List (gA × Int)):Prop:=∀m:gA,bf T m=if (D m&&kZ f m)=true then some 1 else none
theorem gF.congr {f:ac} {D D':gA→Bool} {T:List (gA × Int)} (h:gF f D T) (e:∀m,kZ f m=true→D m=D' m):gF f D' T:=fun m=>by
 rw[h m]
 cases hp:kZ f m with
 |false=>simp
 |true=>rw[e m hp]
theorem gF.emp (f:ac):gF f (fun _=>false) []:=fun m=>by rw[qQ.2 (by simp)];rfl
theorem vO {f:ac} {i k:Nat} {b:aX} {x:aF} (hb:f.blocks[i]?=some b) (hx:b.insts[k]?=some x):kZ f ((i:Int),(k:Int))=(nz x&&ox f (B6 f (i:Int) k) x):=by
 unfold kZ
 dsimp only
 rw[w8 ⟨by omega,by omega⟩,Bool.true_and,Int.toNat_natCast,dQ hb,hx]
theorem zY {V:Int→Bool} {i k:Nat} {m:gA} (hne:¬m=((i:Int),(k:Int))):Dk V i (k+1) m=Dk V i k m:=by
 unfold Dk
 congr 1
 by_cases e1:m.1=(i:Int)
 ·simp only[e1,decide_true,Bool.true_and]
  rw[decide_eq_decide]
  have:m.2≠(k:Int):=fun e=>hne (Prod.ext e1 e)
  push_cast;omega
 ·simp[e1]
theorem gF.skip {f:ac} {V:Int→Bool} {i k:Nat} {T:List (gA × Int)} (h:gF f (Dk V i k) T) (hp:kZ f ((i:Int),(k:Int))=false):gF f (Dk V i (k+1)) T:=h.congr fun m hm=>(zY fun e=>by rw[e,hp] at hm;cases hm).symm
theorem gF.put {f:ac} {V:Int→Bool} {i k:Nat} {T:List (gA × Int)} (h:gF f (Dk V i k) T) (hV:V (i:Int)=false) (hp:kZ f ((i:Int),(k:Int))=true):gF f (Dk V i (k+1)) (bU T ((i:Int),(k:Int)) 1):=fun m=>by
 have hn:bf T ((i:Int),(k:Int))=none:=by
  rw[h,if_neg]
  unfold Dk
  simp[hV]
 rw[qR hn]
 split
 ·rename_i e
  subst e
  rw[hp,if_pos]
  unfold Dk;simp;right;omega
 ·rename_i e
  rw[h m,zY e]
theorem gF.last {f:ac} {V:Int→Bool} {i:Nat} {b:aX} (hb:f.blocks[i]?=some b) {T:List (gA × Int)} (h:gF f (Dk V i b.insts.length) T):gF f (fun m=>V m.1||decide (m.1=(i:Int))) T:=h.congr fun m hm=>by
 unfold Dk
 by_cases e:m.1=(i:Int)
 ·unfold kZ at hm
  rw[wa] at hm
  have h0:=wd hm.1
  have h1:=hm.2
  rw[e,dQ hb] at h1
  have:m.2<(b.insts.length:Int):=by
   refine Classical.byContradiction fun hn=>?_
   rw[List.getElem?_eq_none (by omega)] at h1
   cases h1
  simp[e,this]
 ·simp[e]
end Go.Proofs.YtdilpodccjlkgaaGreatDoor
namespace Go.Proofs.YtdilpodccjlkgaaGreatDoor
open Go.Proofs.Tryz
section
variable {f:ac} (hR:b5 f)
include hR
theorem b5.memO {b:Int} (h:0≤b∧b<f.blocks.length):b∈aB (ah f) f.blocks.length:=by
 obtain ⟨j,rfl⟩:∃j:Nat,b=(j:Int):=⟨b.toNat,by omega⟩
 exact (bP hR.hE.grph.toEOk _).2 (hR.hs.2.1 j (by omega))
end
end Go.Proofs.YtdilpodccjlkgaaGreatDoor
namespace Go.Proofs.YtdilpodccjlkgaaGreatDoor
open Go.Proofs.Tryz
section
variable {f:ac} (hR:b5 f)
include hR
theorem b5.rk0 {v:Int} {y:aF} (h:dx f v=some y) (hl:0<y.args.length):ro f (bj y)<ro f v:=hR.rk_arg h _ (xC hl)
theorem b5.rk1 {v:Int} {y:aF} (h:dx f v=some y) (hl:1<y.args.length):ro f (b7 y)<ro f v:=hR.rk_arg h _ (GK hl)
theorem k6 (K:KS):∀(n m:Nat) (v:Int),ro f v<n→ro f v<m→fm f K n v=fm f K m v
 |0,_,_,h,_=>by omega
 |_,0,_,_,h=>by omega
 |n+1,m+1,v,hn,hm=>by
  unfold fm
  cases hx:dx f v with
  |none=>rfl
  |some x=>
   obtain ⟨hF,_,_⟩:=hR.madeF hx
   have a0:∀{k:Int},x.op=k→0<([0,1,2,2,2,2,2,2,2,2,1,2,1,2,3,1,0,1,2,1,1,2,2,2,1,2,2][k.toNat]?).getD 0→fm f K n (bj x)=fm f K m (bj x):=fun e h=>by
    have:=hR.rk0 hx (by rw[hF.cnt e];exact h)
    exact k6 K n m _ (by omega) (by omega)
   have a1:∀{k:Int},x.op=k→1<([0,1,2,2,2,2,2,2,2,2,1,2,1,2,3,1,0,1,2,1,1,2,2,2,1,2,2][k.toNat]?).getD 0→fm f K n (b7 x)=fm f K m (b7 x):=fun e h=>by
    have:=hR.rk1 hx (by rw[hF.cnt e];exact h)
    exact k6 K n m _ (by omega) (by omega)
   dsimp only
   by_cases h8:x.op=8
   ·rw[if_pos h8,if_pos h8]
   by_cases h9:x.op=9
   ·rw[if_neg h8,if_neg h8,if_pos h9,if_pos h9]
   by_cases h7:x.op=7
   ·rw[if_neg h8,if_neg h8,if_neg h9,if_neg h9,if_pos h7,if_pos h7]
   by_cases h1:x.op=1
   ·rw[if_neg h8,if_neg h8,if_neg h9,if_neg h9,if_neg h7,if_neg h7,if_pos h1,if_pos h1,a0 h1 (by decide)]
   by_cases h10:x.op=10
   ·rw[if_neg h8,if_neg h8,if_neg h9,if_neg h9,if_neg h7,if_neg h7,if_neg h1,if_neg h1,if_pos h10,if_pos h10,a0 h10 (by decide)]
   by_cases h11:x.op=11
   ·rw[if_neg h8,if_neg h8,if_neg h9,if_neg h9,if_neg h7,if_neg h7,if_neg h1,if_neg h1,if_neg h10,if_neg h10,if_pos h11,if_pos h11,a0 h11 (by decide),a1 h11 (by decide)]
   ·rw[if_neg h8,if_neg h8,if_neg h9,if_neg h9,if_neg h7,if_neg h7,if_neg h1,if_neg h1,if_neg h10,if_neg h10,if_neg h11,if_neg h11]
theorem DB {i:zJ} (hp:f.params.length≤f.vars.length) (ht:∀j,0≤nW f j∧nW f j≤2) (hi:fO f i=0) (h64:Bq i) (n:Nat) (he:(ic f n (rL f i)).ended=false) :
  gx f (ic f n (rL f i)):=by
 rcases vL hR n _ (gx.beg hR hp ht hi h64) rfl with ⟨_,h⟩|⟨_,_,_,_,_,h⟩
 ·exact h
 ·rw[h] at he;cases he
theorem DC {s:GS} (hI:gx f s) (hx:(bT f s.blk).insts.length=s.pc) (hk:(bT f s.blk).term.kind=1) :
  (jA f s.blk=1→gb s.bools (bT f s.blk).term.var=true)∧(jA f s.blk=2→gb s.bools (bT f s.blk).term.var=false):=by
 have h:=hI.goes hR hx hk 100000
 have e:B6 f s.blk s.pc=xB f (jY f s.blk) s.blk:=by
  unfold B6 xB jY
  rw[List.take_of_length_le (by omega)]
 rw[e] at h
 unfold jA
 rw[if_pos hk]
 exact h
end
end Go.Proofs.YtdilpodccjlkgaaGreatDoor
namespace Go.Proofs.YtdilpodccjlkgaaGreatDoor
open Go.Proofs.Tryz
abbrev gg:=Int × Bool
def fP (es:List (gg × Int)):Int:=(es.map (·.2)).sum
theorem DD (es:List (gg × Int)) (k:gg) (v:Int):fP (es++[(k,v)])=fP es+v:=by unfold fP;simp
theorem DE:∀{es:List (gg × Int)} {j:Nat} {k:gg} {u:Int} (v:Int),es[j]?=some (k,u)→fP (es.set j (k,v))=fP es - u+v
 |x::es,0,k,u,v,h=>by
  cases h
  unfold fP
  simp only[List.set_cons_zero,List.map_cons,List.sum_cons];omega
 |x::es,j+1,k,u,v,h=>by
  have ih:=DE (es:=es) (j:=j) v h
  unfold fP at ih ⊢
  rw[List.set_cons_succ,List.map_cons,List.sum_cons,ih,List.map_cons,List.sum_cons];omega
theorem zZ (es:List (gg × Int)) (k:gg) (v:Int):fP (bU es k v)=fP es - (bf es k).getD 0+v:=by
 cases h:fL k es 0 with
 |none=>
  have hg:bf es k=none:=by unfold bf;rw[h];rfl
  rw[gS hg,DD,hg];simp
 |some q=>
  obtain ⟨j,u⟩:=q
  have hg:bf es k=some u:=by unfold bf;rw[h];rfl
  have h1:bU es k v=es.set j (k,v):=by unfold bU;rw[h]
  rw[h1,DE v (gy h).1,hg];rfl
theorem nA (es:List (gg × Int)) (k k':gg) (v:Int):bf (bU es k v) k'=if k'=k then some v else bf es k':=by
 cases h:fL k es 0 with
 |none=>exact qR (by unfold bf;rw[h];rfl) v k'
 |some q=>
  split
  ·rename_i e
   subst e
   obtain ⟨j,hj,_⟩:=xM (es:=es) (k:=k') v
   unfold bf;rw[hj];rfl
  ·rename_i hne
   obtain ⟨j,u⟩:=q
   have h1:bU es k v=es.set j (k,v):=by unfold bU;rw[h]
   rw[h1]
   have key:∀(es:List (gg × Int)) (i j:Nat),(∀x,es[j]?=some x→x.1=k)→(fL k' (es.set j (k,v)) i).map (·.2)=(fL k' es i).map (·.2):=fun es=>by
    induction es with
    |nil=>intro i j _;rfl
    |cons x es ih=>
     intro i j hx
     obtain ⟨k2,w⟩:=x
     cases j with
     |zero=>
      have:k2=k:=hx _ rfl
      subst this
      rw[List.set_cons_zero]
      unfold fL
      rw[if_neg hne,if_neg hne]
     |succ j=>
      rw[List.set_cons_succ]
      unfold fL
      split
      ·rfl
      ·exact ih (i+1) j hx
   have h2:=(gy h).1
   exact key es 0 j fun x hx=>by rw[h2] at hx;cases hx;rfl
structure iK (f:ac) (es:List (gg × Int)) (q:kw):Prop where
 get:∀k,(bf es k).isSome=q.seen.contains k
 pos:∀e∈es,1≤e.2
 nod:q.seen.Nodup
 rng:∀k∈q.seen,bc f k.1=true
 out:q.out.length≤q.seen.length
section
variable {f:ac} {es:List (gg × Int)} {q:kw}
theorem iK.emp (f:ac):iK f [] ⟨[],[]⟩:=⟨fun k=>rfl,fun e he=>(by cases he),List.nodup_nil,fun k hk=>(by cases hk),Nat.le_refl _⟩
theorem tN:∀(es:List (gg × Int)),(∀e∈es,1≤e.2)→0≤fP es
 |[],_=>by decide
 |x::es,h=>by
  have:=tN es fun e he=>h e (.tail _ he)
  have:=h x (.head _)
  unfold fP at *
  rw[List.map_cons,List.sum_cons];omega
theorem Aa:∀(es:List (gg × Int)),(∀e∈es,1≤e.2)→∀e∈es,e.2≤fP es
 |x::es,h,e,he=>by
  have h1:=tN es fun e he=>h e (.tail _ he)
  have h2:=h x (.head _)
  have e1:fP (x::es)=x.2+fP es:=by unfold fP;simp
  rw[e1]
  rcases List.mem_cons.1 he with rfl|he
  ·omega
  ·have:=Aa es (fun e he=>h e (.tail _ he)) e he;omega
theorem vP {k:gg} {v:Int} (h:bf es k=some v):(k,v)∈es:=by
 unfold bf at h
 cases hq:fL k es 0 with
 |none=>rw[hq] at h;cases h
 |some p=>
  obtain ⟨j,u⟩:=p
  rw[hq] at h
  cases h
  exact w4 (gy hq).1
theorem iK.val (h:iK f es q) (k:gg):0≤(bf es k).getD 0∧(bf es k).getD 0≤fP es∧(q.seen.contains k=true↔1≤(bf es k).getD 0):=by
 have hg:=h.get k
 have hn:=tN es h.pos
 cases hk:bf es k with
 |none=>rw[hk] at hg;rw[←hg];simp;exact hn
 |some v=>
  rw[hk] at hg
  rw[←hg]
  have:=h.pos _ (vP hk)
  have:=Aa es h.pos _ (vP hk)
  simp at *;omega
theorem Ab (h:∀e∈es,1≤e.2) (k:gg) {v:Int} (hv:1≤v):∀e∈bU es k v,1≤e.2:=fun e he=>by
 unfold bU at he
 split at he
 ·rcases fw he with he|he
  ·exact h e he
  ·rw[he];exact hv
 ·rcases List.mem_append.1 he with he|he
  ·exact h e he
  ·rw[List.mem_singleton.1 he];exact hv
theorem iK.len (h:iK f es q):q.seen.length≤2*f.vars.length:=by
 have hsub:∀k∈q.seen,k∈(bx f.vars.length).flatMap fun i=>[(i,true),(i,false)]:=fun k hk=>by
  have hr:0≤k.1∧k.1<f.vars.length:=by simpa [bc] using h.rng k hk
  refine List.mem_flatMap.2 ⟨k.1,cK.2 hr,?_⟩
  obtain ⟨a,b⟩:=k
  cases b<;>simp
 have h1:=List.Nodup.length_le_of_subset h.nod hsub
 have h2:∀l:List Int,(l.flatMap fun i=>[(i,true),(i,false)]).length=2*l.length:=fun l=>by
  induction l with
  |nil=>rfl
  |cons a l ih=>
   rw[List.flatMap_cons,qz,ih,List.length_cons]
   show 2+2*l.length=2*(l.length+1)
   omega
 have h2:=h2 (bx f.vars.length)
 rw[bS] at h2
 omega
theorem iK.old (h:iK f es q) {k:gg} (hk:q.seen.contains k=true):iK f (bU es k ((bf es k).getD 0+1)) q∧fP (bU es k ((bf es k).getD 0+1))=fP es+1:=by
 have hv:=h.val k
 refine ⟨⟨fun k'=>?_,Ab h.pos k (by omega),h.nod,h.rng,h.out⟩,by rw[zZ];omega⟩
 rw[nA]
 split
 ·rename_i e;subst e;exact hk.symm
 ·exact h.get k'
theorem iK.new (h:iK f es q) {k:gg} (hk:q.seen.contains k=false) (hr:bc f k.1=true):iK f (bU es k ((bf es k).getD 0+1)) ⟨q.seen++[k],q.out⟩∧fP (bU es k ((bf es k).getD 0+1))=fP es+1:=by
 have hv:=h.val k
 refine ⟨⟨fun k'=>?_,Ab h.pos k (by omega),?_,fun k' hk'=>?_,?_⟩,by rw[zZ];omega⟩
 ·rw[nA]
  split
  ·rename_i e;subst e;simp
  ·rename_i hne
   rw[h.get k',w3]
   simp[hne]
 ·show (q.seen++[k]).Nodup
  rw[List.nodup_append]
  refine ⟨h.nod,by simp,fun a ha b hb e=>?_⟩
  simp at hb
  subst hb e
  rw[List.contains_iff_mem.2 ha] at hk;cases hk
 ·rcases List.mem_append.1 hk' with hk'|hk'
  ·exact h.rng k' hk'
  ·rw[List.mem_singleton.1 hk'];exact hr
 ·show q.out.length≤(q.seen++[k]).length
  have:=h.out
  rw[qz];simp;omega
theorem iK.tell {k:gg} (h:iK f es ⟨q.seen++[k],q.out⟩) (ho:q.out.length≤q.seen.length) (a b n:Int):iK f es (fa ⟨q.seen++[k],q.out⟩ a b n)∧(fa ⟨q.seen++[k],q.out⟩ a b n).seen=q.seen++[k]:=by
 unfold fa
 split
 ·exact ⟨h,rfl⟩
 ·refine ⟨⟨h.get,h.pos,h.nod,h.rng,?_⟩,rfl⟩
  show (q.out++_).length≤(q.seen++[k]).length
  simp;omega
end
structure tO (f:ac) (q:kw):Prop where
 nod:q.seen.Nodup
 rng:∀k∈q.seen,bc f k.1=true
 out:q.out.length≤q.seen.length
theorem tO.len {f:ac} {q:kw} (h:tO f q):q.out.length≤2*f.vars.length:=by
 have hsub:∀k∈q.seen,k∈(bx f.vars.length).flatMap fun i=>[(i,true),(i,false)]:=fun k hk=>by
  have hr:0≤k.1∧k.1<f.vars.length:=by simpa [bc] using h.rng k hk
  refine List.mem_flatMap.2 ⟨k.1,cK.2 hr,?_⟩
  obtain ⟨a,b⟩:=k
  cases b<;>simp
 have h1:=List.Nodup.length_le_of_subset h.nod hsub
 have h2:∀l:List Int,(l.flatMap fun i=>[(i,true),(i,false)]).length=2*l.length:=fun l=>by
  induction l with
  |nil=>rfl
  |cons a l ih=>
   rw[List.flatMap_cons,qz,ih,List.length_cons]
   show 2+2*l.length=2*(l.length+1)
   omega
 have h2:=h2 (bx f.vars.length)
 rw[bS] at h2
 have:=h.out
 omega
theorem tO.push {f:ac} {q:kw} (h:tO f q) {k:gg} (hk:q.seen.contains k=false) (hr:bc f k.1=true):tO f ⟨q.seen++[k],q.out⟩∧∀a b n,tO f (fa ⟨q.seen++[k],q.out⟩ a b n):=by
 have hn:(q.seen++[k]).Nodup:=by
  rw[List.nodup_append]
  refine ⟨h.nod,by simp,fun a ha b hb e=>?_⟩
  simp at hb
  subst hb e
  rw[List.contains_iff_mem.2 ha] at hk;cases hk
 have hg:∀k'∈q.seen++[k],bc f k'.1=true:=fun k' hk'=>by
  rcases List.mem_append.1 hk' with hk'|hk'
  ·exact h.rng k' hk'
  ·rw[List.mem_singleton.1 hk'];exact hr
 have ho:=h.out
 have h1:tO f ⟨q.seen++[k],q.out⟩:=⟨hn,hg,by show q.out.length≤(q.seen++[k]).length;simp;omega⟩
 refine ⟨h1,fun a b n=>?_⟩
 unfold fa
 split
 ·exact h1
 ·exact ⟨hn,hg,by show (q.out++_).length≤(q.seen++[k]).length;simp;omega⟩
theorem vQ {f:ac} (hR:b5 f):∀(n:Nat) (q:kw) (c:Int) (is:Bool),tO f q→bc f c=true→tO f (kx f n q c is)
 |0,q,_,_,h,_=>h
 |n+1,q,c,is,h,hc=>by
  unfold kx
  split
  ·exact h
  rename_i hk
  have hk:q.seen.contains (c,is)=false:=by simpa using hk
  obtain ⟨h1,h2⟩:=h.push hk hc
  split
  ·exact h1
  rename_i x hx
  obtain ⟨hF,_,_⟩:=hR.madeF hx
  have a0:∀{k:Int},x.op=k→0<([0,1,2,2,2,2,2,2,2,2,1,2,1,2,3,1,0,1,2,1,1,2,2,2,1,2,2][k.toNat]?).getD 0→bc f (bj x)=true:=fun e h=>by
   have:=hF.a0 (by rw[hF.cnt e];exact h)
   unfold bc;simpa using ⟨this.2,this.1⟩
  have a1:∀{k:Int},x.op=k→1<([0,1,2,2,2,2,2,2,2,2,1,2,1,2,3,1,0,1,2,1,1,2,2,2,1,2,2][k.toNat]?).getD 0→bc f (b7 x)=true:=fun e h=>by
   have:=hF.a1 (by rw[hF.cnt e];exact h)
   unfold bc;simpa using ⟨this.2,this.1⟩
  split
  ·rename_i e;exact vQ hR n _ _ _ h1 (a0 e (by decide))
  split
  ·rename_i e;exact vQ hR n _ _ _ h1 (a0 e (by decide))
  split
  ·rename_i e
   split
   ·exact vQ hR n _ _ _ (vQ hR n _ _ _ h1 (a0 e (by decide))) (a1 e (by decide))
   ·exact h1
  split
  ·split
   ·exact h2 _ _ _
   ·exact h2 _ _ _
  split
  ·split
   ·exact h2 _ _ _
   ·exact h2 _ _ _
  split
  ·split
   ·exact h2 _ _ _
   ·exact h1
  ·exact h1
theorem BJ {f:ac} (hR:b5 f) {c:Int} (is:Bool) (hc:bc f c=true):(jX f c is).length≤2*f.vars.length:=(vQ hR 100000 ⟨[],[]⟩ c is ⟨List.nodup_nil,fun k hk=>(by cases hk),Nat.le_refl _⟩ hc).len
end Go.Proofs.YtdilpodccjlkgaaGreatDoor
namespace Go.Proofs.YtdilpodccjlkgaaGreatDoor
open Go.Proofs.Tryz
open Go.Proofs Go.Lib Go.Shelf Go.RowKit
variable {E:World}
set_option maxRecDepth 20000
def nB:tJ (Int × Int) where
 av:=fun k=>[.int .i64 k.1,.int .i64 k.2]
 val:=fun k=>#[.int .i64 k.1,.int .i64 k.2]
 one:=fun {I k v} h=>by
  obtain ⟨vs,rfl,a,_,rfl,h1,b,_,rfl,h2,h3⟩:=h
  have h1:a=.int .i64 k.1:=h1
  have h2:b=.int .i64 k.2:=h2
  have h3:_=[]:=h3
  subst h1 h2 h3;rfl
 bits:=fun k=>by unfold Instr.sameBits;simp[Instr.sameBits]
def tP:tJ (Int × Bool) where
 av:=fun k=>[.int .i64 k.1,.bool k.2]
 val:=fun k=>#[.int .i64 k.1,.bool k.2]
 one:=fun {I k v} h=>by
  obtain ⟨vs,rfl,a,_,rfl,h1,b,_,rfl,h2,h3⟩:=h
  have h1:a=.int .i64 k.1:=h1
  have h2:b=.bool k.2:=h2
  have h3:_=[]:=h3
  subst h1 h2 h3;rfl
 bits:=fun k=>by unfold Instr.sameBits;simp[Instr.sameBits]
set_option maxRecDepth 200000 in
set_option maxHeartbeats 4000000 in
theorem DF:iJ nB prog 77 where
 und:=⟨_,Zp⟩
 chk:=fun e k w=>by
  have hS:prog.underlying 77=some (.struct (prog.fieldsOf 77)):=by kernel_rfl
  rw[show (10000:Nat)=9999+1 from rfl]
  unfold Instr.checkKey
  rw[Sem.run_bind,run_underlying hS]
  simp only[Result.andThen,nB,Program.fieldsOf,Zp]
  have h1:∀n w,(Instr.checkKey e 9999 3 (.int .i64 n)).run prog w=.ok () w:=fun n w=>MapKept.run_checkKey (d:=.int .i64) (k:=kv n) Zy (o5 n) e 9998
  simp[part,j6,h1,Sem.run_bind,Result.andThen]
 eq:=fun k k' w=>by
  have hS:prog.underlying 77=some (.struct (prog.fieldsOf 77)):=by kernel_rfl
  have hp:prog.stoodInHeld 77=false:=by kernel_rfl
  unfold Op.equal nB
  rw[show Op.maxDepth=9999+1 from rfl,run_equalIn_agg w 9999 _ _ _ hS hp]
  simp only[Program.fieldsOf,Zp]
  simp[Op.eqFields,part,j6,run_equalIn_int,Zy]
  obtain ⟨a,b⟩:=k
  obtain ⟨a',b'⟩:=k'
  by_cases h1:a=a'<;>by_cases h2:b=b'<;>simp[h1,h2]
set_option maxRecDepth 200000 in
set_option maxHeartbeats 4000000 in
theorem jZ:iJ tP prog 279 where
 und:=⟨_,underlying279⟩
 chk:=fun e k w=>by
  have hS:prog.underlying 279=some (.struct (prog.fieldsOf 279)):=by kernel_rfl
  rw[show (10000:Nat)=9999+1 from rfl]
  unfold Instr.checkKey
  rw[Sem.run_bind,run_underlying hS]
  simp only[Result.andThen,tP,Program.fieldsOf,underlying279]
  have h1:∀n w,(Instr.checkKey e 9999 3 (.int .i64 n)).run prog w=.ok () w:=fun n w=>MapKept.run_checkKey (d:=.int .i64) (k:=kv n) Zy (o5 n) e 9998
  have h2:∀n w,(Instr.checkKey e 9999 4 (.bool n)).run prog w=.ok () w:=fun n w=>MapKept.run_checkKey (d:=.bool) (k:=.bool n) Y7 trivial e 9998
  simp[part,j6,Ym,h1,h2,Sem.run_bind,Result.andThen]
 eq:=fun k k' w=>by
  have hS:prog.underlying 279=some (.struct (prog.fieldsOf 279)):=by kernel_rfl
  have hp:prog.stoodInHeld 279=false:=by kernel_rfl
  unfold Op.equal tP
  rw[show Op.maxDepth=9999+1 from rfl,run_equalIn_agg w 9999 _ _ _ hS hp]
  simp only[Program.fieldsOf,underlying279]
  simp[Op.eqFields,part,j6,Ym,run_equalIn_int,run_equalIn_bool',Zy,Y7]
  obtain ⟨a,b⟩:=k
  obtain ⟨a',b'⟩:=k'
  by_cases h1:a=a'<;>by_cases h2:b=b'<;>simp[h1,h2]
end Go.Proofs.YtdilpodccjlkgaaGreatDoor
namespace Go.Proofs.YtdilpodccjlkgaaGreatDoor
open Go.Proofs.Tryz
open Go.Proofs Go.Lib Go.Shelf Go.RowKit
theorem HY:dB prog 183 #[(0,1),(1,1),(2,1)] [.int .i64 0,.int .i64 0,.int .i64 0]:=⟨_,_,Yy,zeroValue183,fun w=>by kernel_rfl,rfl⟩
theorem Fo:da prog 181 183 1 3 [.int .i64 0,.int .i64 0,.int .i64 0]:=⟨_,underlying181,sizeOf183,zeroValue183,by decide,by decide,by kernel_rfl⟩
variable {E:World}
set_option maxRecDepth 20000
def iL (r:ww):List AV:=[.int .i64 r.a,.int .i64 r.b,.int .i64 r.n]
theorem DG (l:List ww):(l.map iL).flatten.length=l.length*3:=by
 induction l with
 |nil=>rfl
 |cons o r ih=>rw[List.map_cons,List.flatten_cons,qz,ih,List.length_cons];show 3+_=_;omega
theorem qW {f:ac} {v:Int} (h:v<f.vars.length∧0≤v):bc f v=true:=by unfold bc;simpa using ⟨h.2,h.1⟩
theorem oa {f:ac} {v:Int} (h:bc f v=true):aM prog E 202 [.agg (bE f),.fro 2 ((cf f).map eP.row),.int .i64 v] (.tup [.agg (IU (dx f v)),.bool (dx f v).isSome]):=by
 obtain ⟨hv0,hvg⟩:=gd h
 unfold bE
 refine zp func202 Z (by decide) Z<|ai<|ya (cs:=_) Z Z Z<|y7 (cs:=[.int .i64 0,.int .i64 0,.raw (.slice none 0 0),.int .i64 0]) Zh Z Z<|fun i6=>ab Z<|z6<|zd<|ai<|be Z<|aa Z<|za (bv v.toNat Zw Yt Z Z (by omega) hvg)<|ae isAgg77 Yt Z Z<|y7 (cs:=[.int .i64 0,.int .i64 0]) zeroValue77 Z Z<|fun i8=>y1 Yt Z Z Z Z Z Z .head Z<|ze (yd (t:=8) Z .head)<|z6<|zd<|ye (γ:=Bool) [3,6,8] (fun u=>[(20,.bool u)]) (fun u=>[(i6,.cells 54 [.int .i64 0,.int .i64 0,.raw (.slice none 0 0),.int .i64 0])]) (fun u=>u=decide (0≤(aL f v).1∧0≤(aL f v).2)) ?_ (fun _ _ h=>h) ?_
 ·refine aW<|au Zp Z wz Z Z<|aA j6 Z<|za (q5 Z Z)<|aj Z<|zq (s:=16) Z (fun c1=>?_) (fun c1=>?_)
  ·refine z8 Z Z c1<|au Zp Z wz Z Z<|z8 Z Z c1<|aA j6 Z<|z8 Z Z c1<|za (q5 Z Z)<|aw Z c1 Z<|z6 ?_
   exact ⟨_,db,aK,aH,by simp_all<;>omega⟩
  ·refine z7 Z Z c1<|z7 Z Z c1<|z7 Z Z c1<|ax Z c1 Z<|z6 ?_
   exact ⟨_,db,aK,aH,by simp_all<;>omega⟩
 ·rintro u hu
  refine zy Z (fun cu=>?_) (fun cu=>?_)
  ·have hy:0≤(aL f v).1∧0≤(aL f v).2:=wd (hu▸cu)
   obtain ⟨i,b,h1,h2,h3⟩:=gt hy.1
   obtain ⟨q,x,h4,h5,h6⟩:∃(q:Nat) (x:aF),b.insts[q]?=some x∧x.dst=v∧(aL f v).2=q:=by
    rcases h3 with ⟨_,_,_,h4⟩|h3
    ·omega
    ·exact h3
   have hm:dx f v=some x:=by unfold dx;rw[if_pos hy,h2,h6,Int.toNat_natCast,Int.toNat_natCast,h1];exact h4
   rw[hm]
   refine zd<|zr (fun j=>Nat.beq j 11) (by kernel_rfl) Z (zj (.rest _))<|ad 0 Z (bK jg Z Z8 Z Z)<|ad 1 Z (e9 Zg Z)<|ad 2 Z (bK Zp Z wz Z Z)<|ad 3 Z (cQ j6 Z)<|ad 4 Z (bv i ju jx Z Z h2 h1)<|ad 5 Z (bK ji Z Zt Z Z)<|ad 6 Z (e9 Y9 Z)<|ad 7 Z (bK Zp Z wz Z Z)<|ad 8 Z (cQ j6 Z)<|ad 9 Z (bv q Z0 jy Z Z h6 h4)<|ad 10 Z (yw Zz jy Z Z)<|yf<|yh (i:=11) Z (by kernel_rfl) (by kernel_rfl)<|y1 jy Z Z Z Z Z Z .head Z<|z6<|yh (i:=12) Z (by kernel_rfl) (by kernel_rfl)<|ab Z<|z6<|ym (by kernel_rfl)<|zg<|dX.c1t (y:=.bool _) Z Z ⟨_,.head⟩ Zz jy Z ?_
   rfl
  ·have hn:dx f v=none:=by unfold dx;rw[if_neg (we (hu▸cu))]
   rw[hn]
   refine zi<|ai<|za (y3 (cps:=[]) (rs:=[.int .i64 0,.int .i64 0,.raw (.slice none 0 0),.int .i64 0]) E9 Z Z Z)<|y1 jy Z Z Z Z Z Z .head Z<|ab Z<|z6<|zg<|dX.c1t (y:=.bool _) Z Z ⟨_,.head⟩ Zz jy Z ?_
   rfl
theorem vR {f:ac} {v:Int} (h:bc f v=true) (hm:dx f v=none):aM prog E 202 [.agg (bE f),.fro 2 ((cf f).map eP.row),.int .i64 v] (.tup [.agg [.int .i64 0,.int .i64 0,.raw (.slice none 0 0),.int .i64 0],.bool false]):=by
 have:=oa (E:=E) h
 rw[hm] at this
 exact this
theorem vS {f:ac} {v:Int} (h:bc f v=true) {y:aF} (hm:dx f v=some y):aM prog E 202 [.agg (bE f),.fro 2 ((cf f).map eP.row),.int .i64 v] (.tup [.agg (bH y),.bool true]):=by
 have:=oa (E:=E) h
 rw[hm] at this
 exact this
def DH (f:ac) (bs jo n:Nat):List AV:=[.fro 2 (f.vars.map gC),.fro 1 (f.params.map cX),.fro 7 (f.blocks.map dh),.fro 2 ((cf f).map eP.row),dy bs,.own jo n]
def tQ (f:ac) (iq bs jo:Nat) (es:List (gg × Int)) (q:kw):OL:=[(iq,.cells 256 (DH f bs jo q.out.length)),(0,lQ tP bs es),(jo,.grow 3 183 (q.out.map iL).flatten)]
theorem xP (f:ac) (iq bs jo:Nat) (es:List (gg × Int)) (q:kw) (a b n:Int) (hl:q.out.length≤100000) :
  aY prog E 203 [.po iq 0,.int .i64 a,.int .i64 b,.int .i64 n] (tQ f iq bs jo es q) (fun y O=>∃g:Nat,y=.tup []∧O=tQ f iq bs g es (fa q a b n)∧True):=by
 refine qa (γ:=Nat) (x:=fun g=>.tup []) (M:=fun g=>tQ f iq bs g es (fa q a b n)) (p:=fun _=>True) ?_
 unfold tQ
 refine zp func203 Z (by decide) Z<|ai<|aa Z<|aa Z<|aO Z Z<|z6<|zy Z (fun c=>?_) (fun c=>?_)
 ·have c:¬a=b:=by simpa using c
  have ht:fa q a b n=⟨q.seen,q.out++[⟨a,b,n⟩]⟩:=by unfold fa;rw[if_neg c]
  have hrl:=DG q.out
  refine aW<|aJ Z<|aJ Z<|ap Z<|za (zf Yb Z sizeOf181 (by decide) Z Z)<|za (zo (c:=.own _ _) isAgg181 Z ⟨_,.head⟩ Z)<|aa Z<|aa Z<|aa Z<|za (y3 (cps:=[(0,[_]),(1,[_]),(2,[_])]) (rs:=[_,_,_]) HY Z Z Z)<|y4 (rows:=[[_,_,_]]) Fo Z Z Z Z Z<|yu (k:=3) underlying181 type183 Z Z Z Z Z (fun _=>.t2) hrl (by decide) Z (by show (_+_)*24≤_;simp<;>omega) (by simp<;>omega)<|fun i21=>ap Z<|za (zf Yb Z sizeOf181 (by decide) Z Z)<|yq (l:=[_]) (new:=[_,_,_,_,_,_]) sizeOf181 Z Z Z Z Z Z .head Z Z<|z6<|y9 (zb (zc .t2))<|y9 (zb (zc .t2))<|y9 (zb (zc .t2))<|yl ?_
  exact ⟨i21,rfl,⟨_,.refl _,by rw[ht,w5,List.flatten_append,qz];rfl⟩,trivial⟩
 ·have c:a=b:=by simpa using c
  have ht:fa q a b n=q:=by unfold fa;rw[if_pos c]
  refine zi<|yl ?_
  exact ⟨jo,rfl,⟨_,.refl _,by rw[ht]⟩,trivial⟩
end Go.Proofs.YtdilpodccjlkgaaGreatDoor
