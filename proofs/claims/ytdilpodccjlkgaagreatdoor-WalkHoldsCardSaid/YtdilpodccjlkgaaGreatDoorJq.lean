/- Keys that are structs: a place, a truth of a variable. No conditions. -/
import Derived.Test.YtdilpodccjlkgaaGreatDoorJp
import Derived.Test.YtdilpodccjlkgaaGreatDoorJo
import Derived.Test.YtdilpodccjlkgaaGreatDoorJj
import Derived.Test.YtdilpodccjlkgaaGreatDoorJn
import Derived.Test.YtdilpodccjlkgaaGreatDoorJm
import Derived.Test.YtdilpodccjlkgaaGreatDoorJc
import Derived.Test.YtdilpodccjlkgaaGreatDoorChecked
set_option linter.unusedVariables false
set_option linter.unusedSimpArgs false
set_option linter.unusedSectionVars false
namespace Go.Proofs.YtdilpodccjlkgaaGreatDoor
open Go.Proofs.Tryz
open Go.Proofs Go.Lib Go.Shelf Go.RowKit
theorem H8:dE prog 187 #[(0,1),(1,1)] [.int .i64 0,.raw (.slice none 0 0)]:=⟨_,_,underlying187,zeroValue187,fun w=>by kernel_rfl,rfl⟩
theorem G5:df prog 72 187 1 2 [.int .i64 0,.raw (.slice none 0 0)]:=⟨_,Xj,sizeOf187,zeroValue187,by decide,by decide,by kernel_rfl⟩
variable {E:World}
set_option maxRecDepth 20000
theorem Fw (K:KS) (q:Int × List Int):(K.p.map b9).flatten++b9 q=((K.p++[q]).map b9).flatten:=by simp
theorem oU (r:List (Int × List Int)):(r.map b9).flatten.length=r.length*2:=by
 induction r with
 |nil=>rfl
 |cons o r ih=>rw[List.map_cons,List.flatten_cons,qz,ih,List.length_cons];show 2+_=_;omega
theorem Fx {f:ac} {x:aF} (hF:bL f x) (hc:18≤x.op∧x.op≤24):aV f (bj x)∧0<x.args.length:=by
 have h:=hF.cnt (k:=x.op) rfl
 have h2:0<x.args.length:=by
  obtain ⟨k,hk,e⟩:∃k:Nat,k≤6∧x.op=18+(k:Int):=⟨(x.op - 18).toNat,by omega,by omega⟩
  rw[h,e]
  have:k=0∨k=1∨k=2∨k=3∨k=4∨k=5∨k=6:=by omega
  rcases this with rfl|rfl|rfl|rfl|rfl|rfl|rfl<;>decide
 exact ⟨cM (hF.a0 h2),h2⟩
section
variable {f:ac} {K:KS} {t pr a9 a10:AV} {iw js jl jm jp:Nat} {M:List Int}
theorem Fy (K:KS) (x:aF):(lW f K x).p=K.p++[(x.op,x.args)]:=by
 unfold lW;repeat' split
 ·rw[cN,cN]
 ·rw[cN,cN]
 ·rw[cN]
 ·rw[cN]
 ·rfl
 ·rfl
variable (hv:f.vars.length≤1000)
include hv
set_option maxHeartbeats 4000000 in
theorem xX (hK:KB f K) (hP:vP K.p) (x:aF) (hF:bL f x) (hc:18≤x.op∧x.op≤24) :
  aZ prog E 72 [.po iw 0,.agg (bF x)] (iQ f t pr a9 a10 iw js jl jm jp K M) (fun y O=>∃g:Nat × Nat,y=.tup []∧O=iQ f t pr a9 a10 iw js g.1 jm g.2 (lW f K x) M∧True):=by
 refine q9 (γ:=Nat × Nat) (x:=fun g=>.tup []) (M:=fun g=>iQ f t pr a9 a10 iw js g.1 jm g.2 (lW f K x) M) (p:=fun _=>True) ?_
 have nn:aV f (dV f):=fX
 have n0:=Fx hF hc
 have a1:∀{k:Int},x.op=k→1<([0,1,2,2,2,2,2,2,2,2,1,2,1,2,3,1,0,1,2,1,1,2,2,2,1,2,2][k.toNat]?).getD 0→aV f (bY x)∧1<x.args.length:=fun e h=>⟨cM (hF.a1 (by rw[hF.cnt e];exact h)),by rw[hF.cnt e];exact h⟩
 have hpl:=hP.1
 have hpf:=oU K.p
 obtain ⟨Q,hQ⟩:∃Q:KS,(⟨K.l,K.p++[(x.op,x.args)]⟩:KS)=Q:=⟨_,rfl⟩
 have hQB:KB f Q:=hQ▸hK.pass _
 have hQp:Q.p=K.p++[(x.op,x.args)]:=hQ▸rfl
 have hQl:Q.l=K.l:=hQ▸rfl
 have hpos:=fun jp=>Gg (E:=E) (t:=t) (pr:=pr) (a9:=a9) (a10:=a10) (iw:=iw) (js:=js) (jl:=jl) (jm:=jm) (jp:=jp) (M:=M) hv hQB n0.1
 have hup:=fun jp=>H6 (E:=E) (t:=t) (pr:=pr) (a9:=a9) (a10:=a10) (iw:=iw) (js:=js) (jl:=jl) (jm:=jm) (jp:=jp) (M:=M) hv hQB n0.1
 have hpe:nG f Q (bj x)=nG f K (bj x):=hQ▸rfl
 have hfe:e9 f K (bj x) (dV f) 0=e9 f Q (bj x) (dV f) 0:=hQ▸rfl
 have add:=fun jl K hK a b (ha:aV f a) (hb:aV f b) c=>gT (E:=E) (js:=js) (jm:=jm) (M:=M) jl K hK ha hb c
 unfold iQ at *
 refine zp func72 Z (by decide) Z<|ai<|y9 (cs:=_) Z Z Z<|z6<|zd<|zr (fun j=>Nat.beq j 14) (by kernel_rfl) Z (zj (.r (.rest _)))<|ad 0 Z (cP Z)<|ad 1 Z (cP Z)<|ad 2 Z (zw Z)<|ad 3 Z (zf j8 Z sizeOf72 (by decide) Z Z)<|ad 4 Z (zo (c:=.own _ _) isAgg72 Z ⟨_,.head⟩ Z)<|ad 5 Z (bM j5 Z Z2 Z Z)<|ad 6 Z (cR Z3 Z)<|ad 7 Z (bM j5 Z j7 Z Z)<|ad 8 Z (fa je Z)<|ad 9 Z (y4 (cps:=[(0,[_]),(1,[_])]) (rs:=[_,_]) H8 Z Z Z)<|aQ 10 Z<|y3 (rows:=[[_,_]]) G5 Z Z Z Z Z<|z6<|aQ 11 Z<|yq (k:=2) Xj type187 Z Z Z Z Z (fun _=>.t3) hpf (by decide) Z (by show (_+_)*32≤_;simp<;>omega) (by simp<;>omega)<|fun i18=>z6<|yo (i:=12) Z (by kernel_rfl) (by kernel_rfl) (by kernel_rfl) (by kernel_rfl) (zw Z)<|ad 13 Z (zf j8 Z sizeOf72 (by decide) Z Z)<|yf<|yi (i:=14) Z (by kernel_rfl) (by kernel_rfl)<|yp (l:=[_]) (new:=[_,_,_,_,_,_,_,_,_,_,_]) sizeOf72 Z Z Z Z Z Z .head Z Z<|z6<|ym (by kernel_rfl)<|zz (zb (zc .t4))<|zz (zb (zc .t4))<|zz (zb (zc .t4))<|zz (zb (zc .t4))<|zz (zb (zc .t4))<|zz (aS.eq (show _=([(iw,.cells 75 (lY f t pr js i18 Q.p.length a9 a10)),(js,.cells 136 [.int .i64 ((f.vars.length+1:Nat):Int),.own jl Q.l.length,.own jm M.length]),(jl,.grow 3 180 (Q.l.map b8).flatten),(jm,.grow 1 3 (cI M)),(i18,.grow 2 187 (Q.p.map b9).flatten)]:OL) from (by rw[hQp,hQl,←Fw,qz];rfl))) ?_
 have hcp:∀R:KS,R.p=Q.p→True:=fun _ _=>trivial
 unfold lW
 rw[hQ]
 refine ai<|au j5 Z j7 Z Z<|aI je Z<|za (bv 0 wy wz Z Z Z (cU n0.2))<|aA j6 Z<|ak Z<|z6<|ai<|au j5 Z Z2 Z Z<|aA Z3 Z<|z6<|zk<|ai<|ao Z Z<|ab Z<|z6<|zt Z (fun c18=>?_) (fun c18=>?_)
 ·have c18:x.op=18:=c18
  have h1:=a1 c18 (by decide)
  rw[if_pos c18]
  refine zd<|zr (fun j=>false) (by kernel_rfl) Z (zj (.r (.rest _)))<|ad 0 Z (cP Z)<|ad 1 Z (zw Z)<|ad 2 Z (zf j8 Z Z7 (by decide) Z Z)<|ad 3 Z (zo (c:=.po _ _) Zg Z ⟨_,.head⟩ Z)<|ad 4 Z (cP Z)<|ad 5 Z (zw Z)<|ad 6 Z (zf j8 Z wz (by decide) Z Z)<|ad 7 Z (zo (c:=.int _ _) j6 Z ⟨_,.head⟩ Z)<|ad 8 Z (bM j5 Z j7 Z Z)<|ad 9 Z (fa je Z)<|ad 10 Z (bv 1 wy wz Z Z Z (dx h1.2))<|ad 11 Z (cR j6 Z)<|aQ 12 Z<|zu Z (zj (.l (.l (.l (.r (.rest _)))))) (add jl Q hQB _ _ nn h1.1 0) ?_
  rintro r41 O41 ⟨⟨j1,u1⟩,rfl,rfl,_⟩
  refine z6<|bJ<|zz (zb (zc .t4))<|zz (zb (zc .t4))<|zz (zb (zc .t4))<|zz (zb (zc .t4))<|zz (zb (zc .t4))<|zr (fun j=>false) (by kernel_rfl) Z (zj (.r (.rest _)))<|ad 0 Z (cP Z)<|ad 1 Z (zw Z)<|ad 2 Z (zf j8 Z Z7 (by decide) Z Z)<|ad 3 Z (zo (c:=.po _ _) Zg Z ⟨_,.head⟩ Z)<|ad 4 Z (bM j5 Z j7 Z Z)<|ad 5 Z (fa je Z)<|ad 6 Z (bv 1 wy wz Z Z Z (dx h1.2))<|ad 7 Z (cR j6 Z)<|ad 8 Z (cD Z)<|aQ 9 Z<|zu Z (zj (.l (.l (.l (.r (.rest _)))))) (add j1 _ (hQB.add (c:=0) nn h1.1) _ _ h1.1 n0.1 (-1)) ?_
  rintro r51 O51 ⟨⟨j2,u2⟩,rfl,rfl,_⟩
  refine z6<|bJ<|y8 (zb (zc .t4))<|y8 (zb (zc .t4))<|y8 (zb (zc .t4))<|y8 (zb (zc .t4))<|y8 (zb (zc .t4))<|yl ?_
  exact ⟨(j2,i18),rfl,⟨_,.refl _,by rw[cN,cN]⟩,trivial⟩
 ·rw[if_neg (show ¬x.op=18 from c18)]
  refine ai<|ao Z Z<|ab Z<|z6<|zt Z (fun c24=>?_) (fun c24=>?_)
  ·rw[if_pos (show x.op=24 from c24)]
   refine zd<|zr (fun j=>false) (by kernel_rfl) Z (zj (.r (.rest _)))<|ad 0 Z (cP Z)<|ad 1 Z (zw Z)<|ad 2 Z (zf j8 Z Z7 (by decide) Z Z)<|ad 3 Z (zo (c:=.po _ _) Zg Z ⟨_,.head⟩ Z)<|ad 4 Z (cP Z)<|ad 5 Z (zw Z)<|ad 6 Z (zf j8 Z wz (by decide) Z Z)<|ad 7 Z (zo (c:=.int _ _) j6 Z ⟨_,.head⟩ Z)<|ad 8 Z (cD Z)<|aQ 9 Z<|zu Z (zj (.l (.l (.l (.r (.rest _)))))) (add jl Q hQB _ _ nn n0.1 0) ?_
   rintro r63 O63 ⟨⟨j1,u1⟩,rfl,rfl,_⟩
   refine z6<|bJ<|zz (zb (zc .t4))<|zz (zb (zc .t4))<|zz (zb (zc .t4))<|zz (zb (zc .t4))<|zz (zb (zc .t4))<|zr (fun j=>false) (by kernel_rfl) Z (zj (.r (.rest _)))<|ad 0 Z (cP Z)<|ad 1 Z (zw Z)<|ad 2 Z (zf j8 Z Z7 (by decide) Z Z)<|ad 3 Z (zo (c:=.po _ _) Zg Z ⟨_,.head⟩ Z)<|ad 4 Z (cD Z)<|ad 5 Z (cP Z)<|ad 6 Z (zw Z)<|ad 7 Z (zf j8 Z wz (by decide) Z Z)<|ad 8 Z (zo (c:=.int _ _) j6 Z ⟨_,.head⟩ Z)<|aQ 9 Z<|zu Z (zj (.l (.l (.l (.r (.rest _)))))) (add j1 _ (hQB.add (c:=0) nn n0.1) _ _ n0.1 nn 64) ?_
   rintro r73 O73 ⟨⟨j2,u2⟩,rfl,rfl,_⟩
   refine z6<|bJ<|y8 (zb (zc .t4))<|y8 (zb (zc .t4))<|y8 (zb (zc .t4))<|y8 (zb (zc .t4))<|y8 (zb (zc .t4))<|yl ?_
   exact ⟨(j2,i18),rfl,⟨_,.refl _,by rw[cN,cN]⟩,trivial⟩
  ·rw[if_neg (show ¬x.op=24 from c24)]
   refine ai<|ao Z Z<|ab Z<|z6<|zt Z (fun c20=>?_) (fun c20=>?_)
   ·rw[if_pos (show x.op=20 from c20)]
    refine ai<|aJ Z<|aa Z<|zu Z (zj (.l (.l (.l (.l (.l (.rest _))))))) (hpos i18) ?_
    rintro r78 O78 ⟨rfl,rfl⟩
    refine z6<|zy Z (fun cp=>?_) (fun cp=>?_)
    ·rw[if_pos (show nG f K (bj x)=true from hpe▸cp)]
     refine zr (fun j=>false) (by kernel_rfl) Z (zj (.r (.rest _)))<|ad 0 Z (cP Z)<|ad 1 Z (zw Z)<|ad 2 Z (zf j8 Z Z7 (by decide) Z Z)<|ad 3 Z (zo (c:=.po _ _) Zg Z ⟨_,.head⟩ Z)<|ad 4 Z (cP Z)<|ad 5 Z (zw Z)<|ad 6 Z (zf j8 Z wz (by decide) Z Z)<|ad 7 Z (zo (c:=.int _ _) j6 Z ⟨_,.head⟩ Z)<|ad 8 Z (cD Z)<|aQ 9 Z<|zu Z (zj (.l (.l (.l (.r (.rest _)))))) (add jl Q hQB _ _ nn n0.1 (-1)) ?_
     rintro r88 O88 ⟨⟨j1,u1⟩,rfl,rfl,_⟩
     refine z6<|bJ<|y8 (zb (zc .t4))<|y8 (zb (zc .t4))<|y8 (zb (zc .t4))<|y8 (zb (zc .t4))<|y8 (zb (zc .t4))<|yl ?_
     exact ⟨(j1,i18),rfl,⟨_,.refl _,by rw[cN]⟩,trivial⟩
    ·rw[if_neg (show ¬nG f K (bj x)=true by rw[←hpe,cp];decide)]
     refine ai<|aJ Z<|aa Z<|zu Z (zj (.l (.l (.l (.l (.l (.rest _))))))) (hup i18) ?_
     rintro r92 O92 ⟨rfl,rfl⟩
     refine za (kw Z)<|za (jL Z Z)<|za (jO Z Z)<|ak Z<|ab Z<|z6<|zd<|ye (γ:=Bool) [0,4] (fun u=>[(99,.bool u)]) (fun u=>[(iw,.cells 75 (lY f t pr js i18 Q.p.length a9 a10)),(js,.cells 136 [.int .i64 ((f.vars.length+1:Nat):Int),.own jl Q.l.length,.own jm M.length]),(jl,.grow 3 180 (Q.l.map b8).flatten),(jm,.grow 1 3 (cI M)),(i18,.grow 2 187 (Q.p.map b9).flatten)]) (fun u=>u=e9 f Q (bj x) (dV f) 0) ?_ (fun _ _ h=>h) ?_
     ·refine aT<|aj Z<|aj Z<|zq (s:=96) Z (fun c1=>?_) (fun c1=>?_)
      ·refine z8 Z Z c1<|aa Z<|z8 Z Z c1<|za (Gv.leq Z Z)<|aw Z c1 Z<|z6 ?_
       exact ⟨_,(by repeat (first|with_reducible exact ya _ _|refine yt rfl ?_)),aK,aH,by unfold e9 o6;unfold fo at *;cases h:fu Q.l (f.vars.length+1) (bj x) (dV f)<;>simp_all⟩
      ·refine z7 Z Z c1<|z7 Z Z c1<|ay Z c1 Z<|z6 ?_
       exact ⟨_,(by repeat (first|with_reducible exact ya _ _|refine yt rfl ?_)),aK,aH,by unfold e9 o6;unfold fo at *;cases h:fu Q.l (f.vars.length+1) (bj x) (dV f)<;>simp_all⟩
     ·rintro u hu
      refine zy Z (fun cu=>?_) (fun cu=>?_)
      ·rw[if_pos (show e9 f K (bj x) (dV f) 0=true by rw[hfe,←hu];exact cu)]
       refine zr (fun j=>false) (by kernel_rfl) Z (zj (.r (.rest _)))<|ad 0 Z (cP Z)<|ad 1 Z (zw Z)<|ad 2 Z (zf j8 Z Z7 (by decide) Z Z)<|ad 3 Z (zo (c:=.po _ _) Zg Z ⟨_,.head⟩ Z)<|ad 4 Z (cD Z)<|ad 5 Z (cP Z)<|ad 6 Z (zw Z)<|ad 7 Z (zf j8 Z wz (by decide) Z Z)<|ad 8 Z (zo (c:=.int _ _) j6 Z ⟨_,.head⟩ Z)<|aQ 9 Z<|zu Z (zj (.l (.l (.l (.r (.rest _)))))) (add jl Q hQB _ _ n0.1 nn (-1)) ?_
       rintro r109 O109 ⟨⟨j1,u1⟩,rfl,rfl,_⟩
       refine z6<|bJ<|y8 (zb (zc .t4))<|y8 (zb (zc .t4))<|y8 (zb (zc .t4))<|y8 (zb (zc .t4))<|y8 (zb (zc .t4))<|yl ?_
       exact ⟨(j1,i18),rfl,⟨_,.refl _,by rw[cN]⟩,trivial⟩
      ·rw[if_neg (show ¬e9 f K (bj x) (dV f) 0=true by rw[hfe,←hu,cu];decide)]
       refine zh<|yl ?_
       exact ⟨(jl,i18),rfl,⟨_,.refl _,rfl⟩,trivial⟩
   ·rw[if_neg (show ¬x.op=20 from c20)]
    refine zh<|yl ?_
    exact ⟨(jl,i18),rfl,⟨_,.refl _,rfl⟩,trivial⟩
end
end Go.Proofs.YtdilpodccjlkgaaGreatDoor
namespace Go.Proofs.YtdilpodccjlkgaaGreatDoor
open Go.Proofs.Tryz
structure tS (κ:Type) where
 av:κ→List AV
 val:κ→Array Value
 one:∀{I:G} {k:κ} {v:Value},bp I (.agg (av k)) v→v=.agg (val k)
 bits:∀k,Instr.sameBits 10000 (.agg (val k)) (.agg (val k))=true
section
variable {κ:Type} [DecidableEq κ] (c:tS κ)
structure iN (P:Program) (kt:TypeId):Prop where
 und:∃fs,P.underlying kt=some (.struct fs)
 chk:∀e k w,(Instr.checkKey e 10000 kt (.agg (c.val k))).run P w=.ok () w
 eq:∀k k' w,(Op.equal kt (.agg (c.val k)) (.agg (c.val k'))).run P w=.ok (decide (k=k')) w
def fL (k:κ):List (κ × Int)→Nat→Option (Nat × Int)
 |[],_=>none
 |(k',v)::es,i=>if k=k' then some (i,v) else fL k es (i+1)
def bg (es:List (κ × Int)) (k:κ):Option Int:=(fL k es 0).map (·.2)
def bT (es:List (κ × Int)) (k:κ) (v:Int):List (κ × Int):=match fL k es 0 with
 |some (j,_)=>es.set j (k,v)
 |none=>es++[(k,v)]
theorem qU (k:κ):∀(es:List (κ × Int)) (i:Nat),fL k es i=(fL k es 0).map fun q=>(q.1+i,q.2)
 |[],_=>rfl
 |(k',v)::es,i=>by
  unfold fL
  split
  ·simp
  ·rw[qU k es (i+1),qU k es (0+1),Option.map_map]
   congr 1
   funext q
   simp only[Function.comp,Prod.mk.injEq,and_true];omega
theorem qV {k:κ}:∀{es:List (κ × Int)} {i:Nat},fL k es i=none↔k ∉ es.map (·.1)
 |[],_=>by simp[fL]
 |(k',v)::es,i=>by
  unfold fL
  split
  ·rename_i h;simp[h]
  ·rename_i h;rw[qV (es:=es)];simp[h]
theorem gz {k:κ}:∀{es:List (κ × Int)} {j:Nat} {v:Int},fL k es 0=some (j,v)→es[j]?=some (k,v)∧k ∉ (es.take j).map (·.1)
 |[],_,_,h=>by simp[fL] at h
 |(k',u)::es,j,v,h=>by
  unfold fL at h
  split at h
  ·rename_i e
   simp only[Option.some.injEq,Prod.mk.injEq] at h
   obtain ⟨rfl,rfl⟩:=h
   subst e
   exact ⟨rfl,by simp⟩
  ·rename_i e
   rw[qU] at h
   cases hq:fL k es 0 with
   |none=>rw[hq] at h;cases h
   |some q=>
    rw[hq] at h
    simp only[Option.map_some,Option.some.injEq,Prod.mk.injEq] at h
    obtain ⟨rfl,rfl⟩:=h
    obtain ⟨h1,h2⟩:=gz (es:=es) (j:=q.1) (v:=q.2) hq
    refine ⟨by simpa using h1,?_⟩
    rw[show q.1+(0+1)=q.1+1 by omega]
    simp[e]
    simpa using h2
theorem mo (k':κ) (v:Int) (es:List (κ × Int)) (k:κ):bg ((k',v)::es) k=if k=k' then some v else bg es k:=by
 unfold bg
 rw[fL]
 split
 ·rfl
 ·rw[qU,Option.map_map];rfl
theorem mZ:∀(es fs:List (κ × Int)) (k:κ),bg (es++fs) k=(bg es k).or (bg fs k)
 |[],fs,k=>by simp[bg,fL]
 |(k',v)::es,fs,k=>by
  rw[List.cons_append,mo,mo,mZ es fs k]
  split<;>simp
theorem qW {es:List (κ × Int)} {k:κ}:bg es k=none↔k ∉ es.map (·.1):=by
 unfold bg;rw[Option.map_eq_none_iff];exact qV
theorem gU {es:List (κ × Int)} {k:κ} (h:bg es k=none) (v:Int):bT es k v=es++[(k,v)]:=by
 have:fL k es 0=none:=qV.2 (qW.1 h)
 unfold bT;rw[this]
theorem qX {es:List (κ × Int)} {k:κ} (h:bg es k=none) (v:Int) (k':κ):bg (bT es k v) k'=if k'=k then some v else bg es k':=by
 rw[gU h,mZ,mo]
 split
 ·rename_i e;rw[e,h];rfl
 ·show (bg es k').or (bg [] k')=_
  cases bg es k'<;>rfl
def fp (e:κ × Int):Value × Value:=(.agg (c.val e.1),.int .i64 e.2)
def ku (b:Nat) (es:List (κ × Int)):bA:=.heap fun L=>∃arr clock,L=[(b,.map arr clock)]∧go arr=es.map (fp c)
variable {c}
section
variable {P:Program} {kt:TypeId} {w:World}
theorem ol (h:iN c P kt) (k:κ):∀(l:List MapEntry) (es:List (κ × Int)) (i:Nat),l.map (fun e=>(e.key,e.val))=es.map (fp c) →
  (Instr.findAsking kt (.agg (c.val k)) l i).run P w=.ok ((fL k es i).map fun q=>(q.1,.int .i64 q.2)) w
 |[],[],_,_=>rfl
 |[],_::_,_,e=>by cases e
 |_::_,[],_,e=>by cases e
 |x::l,(k',v)::es,i,e=>by
  simp only[List.map_cons,List.cons.injEq,fp,Prod.mk.injEq] at e
  obtain ⟨⟨e1,e2⟩,e3⟩:=e
  unfold Instr.findAsking
  rw[Sem.run_bind,e1,h.eq k k' w]
  simp only[Result.andThen]
  unfold fL
  by_cases hk:k=k'
  ·rw[w8 hk,if_pos hk,e2];rfl
  ·rw[w9 hk,if_neg hk];exact ol h k l es (i+1) e3
theorem lK (h:iN c P kt) (k:κ) (l:List MapEntry) (es:List (κ × Int)) (e:l.map (fun e=>(e.key,e.val))=es.map (fp c)) :
  (Instr.findKey kt (.agg (c.val k)) l).run P w=.ok ((fL k es 0).map fun q=>(q.1,.int .i64 q.2)) w:=by
 obtain ⟨fs,hu⟩:=h.und
 unfold Instr.findKey
 rw[Sem.run_bind,run_underlying hu]
 simp only[Result.andThen]
 cases l with
 |nil=>
  cases es with
  |nil=>rfl
  |cons _ _=>cases e
 |cons x l=>
  cases es with
  |nil=>cases e
  |cons y es=>
   have hx:x.key=(.agg (c.val y.1):Value):=by simp only[List.map_cons,List.cons.injEq,fp,Prod.mk.injEq] at e;exact e.1.1
   have:Instr.findNow (.struct fs) (.agg (c.val k)) (x::l) 0=none:=by unfold Instr.findNow;rw[hx];rfl
   rw[this]
   exact ol h k (x::l) (y::es) 0 e
omit [DecidableEq κ] in
theorem DK (k:κ):(Instr.keyThatStays (Value.agg (c.val k)) (Value.agg (c.val k))).run P w=.ok (.agg (c.val k)) w:=by
 have:Instr.sameBits 10000 (Value.agg (c.val k)) (Value.agg (c.val k))=true:=c.bits k
 unfold Instr.keyThatStays
 rw[if_pos this];rfl
end
section
variable {E:World} {P:Program} {ops:Array Oper} {K:aR→OL→Prop} {env:aR} {O O' O'':OL} {rest:List Oper} {n:Nat}
variable {d ty:Nat} {pos:String} {af:Array Edge} {x y z:Operand} {t u e T kt:TypeId} {b:Nat}
omit [DecidableEq κ] in
theorem az.makeMapS (k:∀b,az P E ops K rest (bq env d (dA b)) ((0,ku c b [])::O)):az P E ops K (Oper.mk (some d) (.makeMap t none) ty pos af none::rest) env O:=fun I F ρ w h1 ⟨ht,L,hL,hS⟩=>by
 refine qn Z ?_
 unfold jN
 have:(execOp (Go.Proofs.YtdilpodccjlkgaaGreatDoor.ev ρ) (Oper.mk (some d) (.makeMap t none) ty pos af none)).run P w=.ok (.value (.map (some w.heap.size))) (w.alloc (.map #[] 0)):=by
  simp only[execOp,Option.map_none]
  rw[Sem.run_bind,run_makeMap_plain];rfl
 rw[this]
 exact k w.heap.size I F _ _ (h1.upd d rfl) ⟨ht,(w.heap.size,.map #[] 0)::L,⟨[_],L,rfl,⟨#[],0,rfl,rfl⟩,hL⟩,hS.alloc _⟩
theorem Gv.lookup1SK {k:κ} {m:Nat} {es:List (κ × Int)} (hk:iN c P kt) (ht:P.underlying t=some (.map kt u)) (hz:∀w,(zeroValue u).run P w=.ok (.int .i64 0) w) (hx:aW env x=dA b) (hy:aW env y=.agg (c.av k))
  (hO:nQ O m (ku c b es)):Gv P env O (Oper.mk (some d) (.lookup t x y false) ty pos af none) (.int .i64 ((bg es k).getD 0)):=fun I L E ρ h1 hL=>by
 obtain ⟨O',hO⟩:=hO
 obtain ⟨A,B,hp,⟨arr,clock,rfl,hM⟩,_⟩:=hO.rep hL
 have hin0:(b,Obj.map arr clock)∈L:=hp.mem_iff.2 (by simp)
 have hx:=fB h1 hx
 have hy2:=h1.ev y
 rw[hy] at hy2
 have hy:=c.one hy2
 refine ⟨.int .i64 ((bg es k).getD 0),Z,fun w J L' hl hS hin=>?_⟩
 have hb:w.heap[b]?=some (Obj.map arr clock):=by
  have:=hS.own _ (hin _ hin0);simpa using this
 have hc:=hk.chk arr.isEmpty k w
 have hf:=lK (w:=w) hk k arr.toList es hM
 have hfin:(bg es k)=(fL k es 0).map (·.2):=rfl
 cases hq:fL k es 0 with
 |none=>
  rw[hq] at hf hfin
  rw[hfin]
  simp[execOp,Instr.lookup,run_underlying ht,hx,hy,MapKept.run_getObj_map hb,hc,hf,hz,Result.andThen]
 |some q=>
  rw[hq] at hf hfin
  rw[hfin]
  simp[execOp,Instr.lookup,run_underlying ht,hx,hy,MapKept.run_getObj_map hb,hc,hf,Result.andThen]
omit [DecidableEq κ] in
theorem tT {arr:Array MapEntry} {es:List (κ × Int)} {j:Nat} {k:κ} {v:Int} (h:go arr=es.map (fp c)) (hj:j<es.length):go (arr.modify j fun e=>{ e with key:=.agg (c.val k),val:=.int .i64 v })=(es.set j (k,v)).map (fp c):=by
 unfold go at h ⊢
 have hl:arr.toList.length=es.length:=by have:=congrArg List.length h;simpa using this
 refine List.ext_getElem? fun q=>?_
 rw[w2,w2,Array.getElem?_toList,Array.getElem?_modify]
 by_cases hq:j=q
 ·subst hq
  rw[if_pos rfl,List.getElem?_set_self hj]
  obtain ⟨e,he⟩:∃e,arr[j]?=some e:=⟨_,Array.getElem?_eq_getElem (by rw[←Array.length_toList];omega)⟩
  rw[he];rfl
 ·rw[if_neg hq,List.getElem?_set_ne hq]
  have:=congrArg (fun l=>l[q]?) h
  simpa [w2] using this
theorem az.mapSetS {k:κ} {m:Nat} {v:Int} {es:List (κ × Int)} (hk:iN c P kt) (ht:P.underlying t=some (.map kt u)) (hx:aW env x=dA b) (hy:aW env y=.agg (c.av k)) (hz:aW env z=.int .i64 v) (hO:fQ O m (ku c b es) (ku c b (bT es k v)) O')
  (kk:az P E ops K rest env O'):az P E ops K (Oper.mk none (.mapUpdate t x y z) ty pos af none::rest) env O:=fun I F ρ w h1 ⟨htop,L,hL,hS⟩=>by
 have hx:=fB h1 hx
 have hy2:=h1.ev y
 rw[hy] at hy2
 have hy2:=c.one hy2
 have hz:=fK h1 hz
 obtain ⟨A,B,hp,⟨arr,clock,rfl,he⟩,hback⟩:=hO.rep hL
 have hS2:SL I.k ((b,.map arr clock)::(B++F)) E w:=hS.perm ((hp.append_right F).symm)
 have hb:=hS2.own _ (.head _)
 simp only at hb
 have hc:=hk.chk false k w
 have hf:=lK (w:=w) hk k arr.toList es he
 have fin:∀(arr':Array MapEntry) (clock':Nat),go arr'=(bT es k v).map (fp c) →
   (execOp (Go.Proofs.YtdilpodccjlkgaaGreatDoor.ev ρ) (Oper.mk none (.mapUpdate t x y z) ty pos af none)).run P w=.ok .skip { w with heap:=w.heap.setIfInBounds b (.map arr' clock') }→bZ P ops (ir I F E K) (Oper.mk none (.mapUpdate t x y z) ty pos af none::rest) ρ w:=fun arr' clock' he' hrun=>by
  refine qn Z ?_
  unfold jN
  rw[hrun]
  obtain ⟨L',h7,h8⟩:=hback (qe I) (A':=[(b,.map arr' clock')]) ⟨arr',clock',rfl,he'⟩
  have hh:=MapKept.heap_set (o':=.map arr' clock') hb
  have hS3:SL I.k ((b,.map arr' clock')::(B++F)) E { w with heap:=w.heap.setIfInBounds b (.map arr' clock') }:=hS2.turn rfl rfl rfl hh.1 hh.2
  exact kk I F ρ _ h1 ⟨htop,L',h7,hS3.perm (h8.append_right F)⟩
 cases hq:fL k es 0 with
 |none=>
  rw[hq] at hf
  refine fin (arr.push { key:=.agg (c.val k),val:=.int .i64 v,born:=clock }) (clock+1) ?_ ?_
  ·unfold bT go at *
   rw[hq]
   simp only[Array.toList_push,w5,he];rfl
  ·simp[execOp,hx,hy2,hz,Instr.mapUpdate,run_underlying ht,MapKept.run_getObj_map hb,hc,hf,MapKept.run_setObj_map _ hb,Result.andThen]
 |some q=>
  obtain ⟨j,u0⟩:=q
  rw[hq] at hf
  obtain ⟨g1,_⟩:=gz hq
  have hj:=(List.getElem?_eq_some_iff.1 g1).1
  have hl:arr.toList.length=es.length:=by have:=congrArg List.length he;unfold go at this;simpa using this
  obtain ⟨e0,he0⟩:∃e,arr[j]?=some e:=⟨_,Array.getElem?_eq_getElem (by rw[←Array.length_toList];omega)⟩
  have hek:e0.key=.agg (c.val k):=by
   have:=congrArg (fun l=>l[j]?) he
   unfold go at this
   simp only[w2,Array.getElem?_toList,he0,g1,Option.map_some,Option.some.injEq,fp,Prod.mk.injEq] at this
   exact this.1
  refine fin (arr.modify j fun e=>{ e with key:=.agg (c.val k),val:=.int .i64 v }) clock ?_ ?_
  ·unfold bT;rw[hq];exact tT he hj
  ·simp[execOp,hx,hy2,hz,Instr.mapUpdate,run_underlying ht,MapKept.run_getObj_map hb,hc,hf,MapKept.run_setObj_map _ hb,Result.andThen,he0,hek,DK]
end
end
end Go.Proofs.YtdilpodccjlkgaaGreatDoor
namespace Go.Proofs.YtdilpodccjlkgaaGreatDoor
open Go.Proofs.Tryz
section
variable {κ:Type} [DecidableEq κ] (c:tS κ)
def qY (arr:Array MapEntry) (clock:Nat):Prop:=(∀x∈arr.toList,x.born<clock)∧(arr.toList.map (·.born)).Nodup
def lZ (b:Nat) (es:List (κ × Int)):bA:=.heap fun L=>∃arr clock,L=[(b,.map arr clock)]∧go arr=es.map (fp c)∧qY arr clock
def Af (b:Nat) (es:List (κ × Int)) (k:κ) (s:Nat):bA:=.heap fun L=>∃arr clock,L=[(b,.map arr clock)]∧go arr=es.map (fp c)∧qY arr clock∧∃i v,fL k es 0=some (i,v)∧arr.findIdx? (fun e=>(e.born:Int) == (s:Int))=some i
variable {c}
theorem lL {es:List (κ × Int)} {k:κ} {u v:Int}:bT (bT es k u) k v=bT es k v:=by
 have h0:∀(es:List (κ × Int)) (i j:Nat) (w:Int),fL k es i=some (j,w)→∀u,fL k (es.set (j - i) (k,u)) i=some (j,u)∧i≤j:=fun es=>by
  induction es with
  |nil=>intro i j w h;cases h
  |cons x es ih=>
   intro i j w h u
   obtain ⟨k',w'⟩:=x
   unfold fL at h
   split at h
   ·cases h
    rw[Nat.sub_self,List.set_cons_zero]
    unfold fL
    rw[if_pos rfl]
    exact ⟨rfl,Nat.le_refl _⟩
   ·rename_i hne
    obtain ⟨h1,h2⟩:=ih _ _ _ h u
    have e:j - i=(j - (i+1))+1:=by omega
    rw[e,List.set_cons_succ]
    unfold fL
    rw[if_neg hne]
    exact ⟨h1,by omega⟩
 cases hq:fL k es 0 with
 |none=>
  have hn:bg es k=none:=by unfold bg;rw[hq];rfl
  have h1:bT es k u=es++[(k,u)]:=gU hn u
  rw[h1,gU hn v]
  have h2:∀(es:List (κ × Int)) (i:Nat),fL k es i=none→fL k (es++[(k,u)]) i=some (i+es.length,u):=fun es=>by
   induction es with
   |nil=>intro i _;simp[fL]
   |cons x es ih=>
    intro i h
    obtain ⟨k',w'⟩:=x
    unfold fL at h
    split at h
    ·cases h
    ·rename_i hne
     rw[List.cons_append]
     unfold fL
     rw[if_neg hne,ih _ h,List.length_cons]
     congr 2;omega
  unfold bT
  rw[h2 es 0 hq,Nat.zero_add]
  simp
 |some q=>
  obtain ⟨j,w⟩:=q
  have h1:bT es k u=es.set j (k,u):=by unfold bT;rw[hq]
  have h2:bT es k v=es.set j (k,v):=by unfold bT;rw[hq]
  have h3:=(h0 es 0 j w hq u).1
  rw[h1,h2]
  unfold bT
  rw[Nat.sub_zero] at h3
  rw[h3]
  simp
theorem xY {es:List (κ × Int)} {k:κ} (u:Int):∃j,fL k (bT es k u) 0=some (j,u)∧((fL k es 0=none∧j=es.length)∨∃w,fL k es 0=some (j,w)):=by
 cases hq:fL k es 0 with
 |none=>
  have hn:bg es k=none:=by unfold bg;rw[hq];rfl
  rw[gU hn u]
  have h2:∀(es:List (κ × Int)) (i:Nat),fL k es i=none→fL k (es++[(k,u)]) i=some (i+es.length,u):=fun es=>by
   induction es with
   |nil=>intro i _;simp[fL]
   |cons x es ih=>
    intro i h
    obtain ⟨k',w'⟩:=x
    unfold fL at h
    split at h
    ·cases h
    ·rename_i hne
     rw[List.cons_append]
     unfold fL
     rw[if_neg hne,ih _ h,List.length_cons]
     congr 2;omega
  exact ⟨es.length,by rw[h2 es 0 hq,Nat.zero_add],.inl ⟨rfl,rfl⟩⟩
 |some q=>
  obtain ⟨j,w⟩:=q
  obtain ⟨g1,g2⟩:=gz hq
  have h1:bT es k u=es.set j (k,u):=by unfold bT;rw[hq]
  refine ⟨j,?_,.inr ⟨w,Z⟩⟩
  rw[h1]
  have h3:∀(es:List (κ × Int)) (i j:Nat) (w:Int),fL k es i=some (i+j,w)→fL k (es.set j (k,u)) i=some (i+j,u):=fun es=>by
   induction es with
   |nil=>intro i j w h;cases h
   |cons x es ih=>
    intro i j w h
    obtain ⟨k',w'⟩:=x
    unfold fL at h
    split at h
    ·have e:j=0:=by
      have:=congrArg (fun o=>(o.getD (0,0)).1) h
      simp at this;omega
     subst e
     rw[List.set_cons_zero]
     unfold fL
     rw[if_pos rfl];rfl
    ·rename_i hne
     cases j with
     |zero=>
      rw[qU] at h
      cases h5:fL k es 0 with
      |none=>rw[h5] at h;cases h
      |some q=>rw[h5] at h;simp at h;omega
     |succ j=>
      rw[show i+(j+1)=(i+1)+j by omega] at h ⊢
      rw[List.set_cons_succ]
      unfold fL
      rw[if_neg hne]
      exact ih _ _ _ h
  have:=h3 es 0 j w (by rw[Nat.zero_add];exact hq)
  rwa [Nat.zero_add] at this
section
variable {E:World} {P:Program} {ops:Array Oper} {K:aR→OL→Prop} {env:aR} {O O':OL} {rest:List Oper} {n:Nat}
variable {d ty:Nat} {pos:String} {af:Array Edge} {x y z:Operand} {t u e T kt:TypeId} {b:Nat}
omit [DecidableEq κ] in
theorem az.makeMapT (k:∀b,az P E ops K rest (bq env d (dA b)) ((0,lZ c b [])::O)):az P E ops K (Oper.mk (some d) (.makeMap t none) ty pos af none::rest) env O:=fun I F ρ w h1 ⟨ht,L,hL,hS⟩=>by
 refine qn Z ?_
 unfold jN
 have:(execOp (Go.Proofs.YtdilpodccjlkgaaGreatDoor.ev ρ) (Oper.mk (some d) (.makeMap t none) ty pos af none)).run P w=.ok (.value (.map (some w.heap.size))) (w.alloc (.map #[] 0)):=by
  simp only[execOp,Option.map_none]
  rw[Sem.run_bind,run_makeMap_plain];rfl
 rw[this]
 exact k w.heap.size I F _ _ (h1.upd d rfl) ⟨ht,(w.heap.size,.map #[] 0)::L,⟨[_],L,rfl,⟨#[],0,rfl,rfl,fun x hx=>(by cases hx),List.nodup_nil⟩,hL⟩,hS.alloc _⟩
theorem Gv.lookup1SG {o:bA} {k:κ} {m:Nat} {es:List (κ × Int)} (ho:∀(I:G) A,mx I (m,o) A→∃arr clock,A=[(b,.map arr clock)]∧go arr=es.map (fp c)) (hk:iN c P kt) (ht:P.underlying t=some (.map kt u)) (hz:∀w,(zeroValue u).run P w=.ok (.int .i64 0) w) (hx:aW env x=dA b) (hy:aW env y=.agg (c.av k))
  (hO:nQ O m o):Gv P env O (Oper.mk (some d) (.lookup t x y false) ty pos af none) (.int .i64 ((bg es k).getD 0)):=fun I L E ρ h1 hL=>by
 obtain ⟨O',hO⟩:=hO
 obtain ⟨A,B,hp,hA,_⟩:=hO.rep hL
 obtain ⟨arr,clock,rfl,hM⟩:=ho _ _ hA
 have hin0:(b,Obj.map arr clock)∈L:=hp.mem_iff.2 (by simp)
 have hx:=fB h1 hx
 have hy2:=h1.ev y
 rw[hy] at hy2
 have hy:=c.one hy2
 refine ⟨.int .i64 ((bg es k).getD 0),Z,fun w J L' hl hS hin=>?_⟩
 have hb:w.heap[b]?=some (Obj.map arr clock):=by
  have:=hS.own _ (hin _ hin0);simpa using this
 have hc:=hk.chk arr.isEmpty k w
 have hf:=lK (w:=w) hk k arr.toList es hM
 have hfin:(bg es k)=(fL k es 0).map (·.2):=rfl
 cases hq:fL k es 0 with
 |none=>
  rw[hq] at hf hfin
  rw[hfin]
  simp[execOp,Instr.lookup,run_underlying ht,hx,hy,MapKept.run_getObj_map hb,hc,hf,hz,Result.andThen]
 |some q=>
  rw[hq] at hf hfin
  rw[hfin]
  simp[execOp,Instr.lookup,run_underlying ht,hx,hy,MapKept.run_getObj_map hb,hc,hf,Result.andThen]
theorem Gv.lookup1ST {k:κ} {m:Nat} {es:List (κ × Int)} (hk:iN c P kt) (ht:P.underlying t=some (.map kt u)) (hz:∀w,(zeroValue u).run P w=.ok (.int .i64 0) w) (hx:aW env x=dA b) (hy:aW env y=.agg (c.av k))
  (hO:nQ O m (lZ c b es)):Gv P env O (Oper.mk (some d) (.lookup t x y false) ty pos af none) (.int .i64 ((bg es k).getD 0)):=
 Gv.lookup1SG (fun I A (h:mx I (m,lZ c b es) A)=>by
  obtain ⟨arr,clock,h1,h2,_⟩:=h
  exact ⟨arr,clock,h1,h2⟩) hk ht hz hx hy hO
theorem BP {es:List (κ × Int)} {k:κ}:(bg (bT es k ((bg es k).getD 0)) k).getD 0=(bg es k).getD 0:=by
 obtain ⟨j,h,_⟩:=xY (es:=es) (k:=k) ((bg es k).getD 0)
 rw[show bg (bT es k ((bg es k).getD 0)) k=some ((bg es k).getD 0) by unfold bg at h ⊢;rw[h];rfl];rfl
theorem Gv.lookup1SE {k:κ} {m s:Nat} {es:List (κ × Int)} (hk:iN c P kt) (ht:P.underlying t=some (.map kt u)) (hz:∀w,(zeroValue u).run P w=.ok (.int .i64 0) w) (hx:aW env x=dA b) (hy:aW env y=.agg (c.av k))
  (hO:nQ O m (Af c b (bT es k ((bg es k).getD 0)) k s)):Gv P env O (Oper.mk (some d) (.lookup t x y false) ty pos af none) (.int .i64 ((bg es k).getD 0)):=by
 have h:=Gv.lookup1SG (P:=P) (env:=env) (O:=O) (d:=d) (ty:=ty) (pos:=pos) (af:=af) (es:=bT es k ((bg es k).getD 0)) (k:=k) (fun I A (h:mx I (m,Af c b (bT es k ((bg es k).getD 0)) k s) A)=>by
  obtain ⟨arr,clock,h1,h2,_⟩:=h
  exact ⟨arr,clock,h1,h2⟩) hk ht hz hx hy hO
 rw[BP] at h
 exact h
theorem vT (a:Array MapEntry) (p:MapEntry→Bool):a.findIdx? p=a.toList.findIdx? p:=by cases a;simp
theorem qZ {l:List MapEntry} (hn:(l.map (·.born)).Nodup) {j:Nat} {x:MapEntry} (h:l[j]?=some x):l.findIdx? (fun e=>(e.born:Int) == (x.born:Int))=some j:=by
 rw[List.findIdx?_eq_some_iff_getElem]
 obtain ⟨hj,e⟩:=List.getElem?_eq_some_iff.1 h
 refine ⟨hj,by simp[e],fun i hi=>?_⟩
 simp only[Bool.not_eq_true,beq_eq_false_iff_ne,ne_eq]
 intro he
 have he:(l[i]'(by omega)).born=x.born:=by exact_mod_cast he
 rw[List.nodup_iff_pairwise_ne] at hn
 have h5:=List.pairwise_iff_getElem.1 hn i j (by rw[w1];omega) (by rw[w1];omega) hi
 rw[List.getElem_map,List.getElem_map,e] at h5
 exact h5 he
omit [DecidableEq κ] in
theorem BQ {arr:Array MapEntry} {es:List (κ × Int)} {j:Nat} {k:κ} {v:Int} (h:go arr=es.map (fp c)) (hj:es[j]?=some (k,v)):go (arr.modify j fun e=>{ e with key:=.agg (c.val k) })=es.map (fp c):=by
 unfold go at h ⊢
 refine List.ext_getElem? fun q=>?_
 have h2:=congrArg (fun l=>l[q]?) h
 simp only[w2,Array.getElem?_toList] at h2
 rw[w2,w2,Array.getElem?_toList,Array.getElem?_modify,←h2]
 by_cases hq:j=q
 ·subst hq
  rw[if_pos rfl]
  rw[hj] at h2
  cases he:arr[j]? with
  |none=>rfl
  |some e0=>
   rw[he] at h2
   simp only[Option.map_some,Option.some.injEq,fp,Prod.mk.injEq] at h2
   simp[h2.1]
 ·rw[if_neg hq]
omit [DecidableEq κ] in
theorem BR {arr:Array MapEntry} {es:List (κ × Int)} {j:Nat} {k:κ} {v u0:Int} (h:go arr=es.map (fp c)) (hj:es[j]?=some (k,u0)):go (arr.modify j fun e=>{ e with val:=.int .i64 v })=(es.set j (k,v)).map (fp c):=by
 unfold go at h ⊢
 refine List.ext_getElem? fun q=>?_
 have h2:=congrArg (fun l=>l[q]?) h
 simp only[w2,Array.getElem?_toList] at h2
 rw[w2,w2,Array.getElem?_toList,Array.getElem?_modify]
 by_cases hq:j=q
 ·subst hq
  rw[if_pos rfl,List.getElem?_set_self (List.getElem?_eq_some_iff.1 hj).1]
  rw[hj] at h2
  cases he:arr[j]? with
  |none=>rw[he] at h2;cases h2
  |some e0=>
   rw[he] at h2
   simp only[Option.map_some,Option.some.injEq,fp,Prod.mk.injEq] at h2
   simp[fp,h2.1]
 ·rw[if_neg hq,List.getElem?_set_ne hq,←h2]
omit [DecidableEq κ] in
theorem om {arr:Array MapEntry} {clock i:Nat} {g:MapEntry→MapEntry} (h:qY arr clock) (hg:∀e,(g e).born=e.born):qY (arr.modify i g) clock∧(arr.modify i g).toList.map (·.born)=arr.toList.map (·.born):=by
 have e:(arr.modify i g).toList.map (·.born)=arr.toList.map (·.born):=by
  refine List.ext_getElem? fun q=>?_
  rw[w2,w2,Array.getElem?_toList,Array.getElem?_toList,Array.getElem?_modify]
  split
  ·cases arr[q]? with
   |none=>rfl
   |some e0=>simp[hg]
  ·rfl
 refine ⟨⟨fun x hx=>?_,by rw[e];exact h.2⟩,e⟩
 have h1:x.born∈arr.toList.map (·.born):=by rw[←e];exact List.mem_map.2 ⟨x,hx,rfl⟩
 obtain ⟨y,hy,hyx⟩:=List.mem_map.1 h1
 rw[←hyx];exact h.1 y hy
theorem az.mapEntryS {k:κ} {m:Nat} {es:List (κ × Int)} {O':Nat→OL} (hk:iN c P kt) (ht:P.underlying t=some (.map kt u)) (hz:∀w,(zeroValue u).run P w=.ok (.int .i64 0) w) (hx:aW env x=dA b) (hy:aW env y=.agg (c.av k))
  (hO:∀s:Nat,fQ O m (lZ c b es) (Af c b (bT es k ((bg es k).getD 0)) k s) (O' s))
  (kk:∀s:Nat,az P E ops K rest (bq env d (.tup [.int .i64 ((bg es k).getD 0),.int .i64 (s:Int)])) (O' s)):az P E ops K (Oper.mk (some d) (.mapEntry t x y) ty pos af none::rest) env O:=fun I F ρ w h1 ⟨htop,L,hL,hS⟩=>by
 have hx:=fB h1 hx
 have hy2:=h1.ev y
 rw[hy] at hy2
 have hy2:=c.one hy2
 obtain ⟨A0,B0,hp0,⟨arr,clock,rfl,he,hB⟩,_⟩:=(hO 0).rep hL
 have hS2:SL I.k ((b,.map arr clock)::(B0++F)) E w:=hS.perm ((hp0.append_right F).symm)
 have hb:=hS2.own _ (.head _)
 simp only at hb
 have hc:=hk.chk false k w
 have hf:=lK (w:=w) hk k arr.toList es he
 have fin:∀(arr':Array MapEntry) (clock' s:Nat),go arr'=(bT es k ((bg es k).getD 0)).map (fp c)→qY arr' clock'→(∃i v,fL k (bT es k ((bg es k).getD 0)) 0=some (i,v)∧arr'.findIdx? (fun e=>(e.born:Int) == (s:Int))=some i) →
   (execOp (Go.Proofs.YtdilpodccjlkgaaGreatDoor.ev ρ) (Oper.mk (some d) (.mapEntry t x y) ty pos af none)).run P w=.ok (.value (.tuple #[.int .i64 ((bg es k).getD 0),.int .i64 (s:Int)])) { w with heap:=w.heap.setIfInBounds b (.map arr' clock') }→bZ P ops (ir I F E K) (Oper.mk (some d) (.mapEntry t x y) ty pos af none::rest) ρ w:=fun arr' clock' s he' hB' hfi hrun=>by
  refine qn Z ?_
  unfold jN
  rw[hrun]
  obtain ⟨A,B,hp,⟨arr2,clock2,rfl,_,_⟩,hback⟩:=(hO s).rep hL
  have hS1:SL I.k ((b,.map arr2 clock2)::(B++F)) E w:=hS.perm ((hp.append_right F).symm)
  have hb1:=hS1.own _ (.head _)
  simp only at hb1
  rw[hb] at hb1
  cases hb1
  obtain ⟨L',h7,h8⟩:=hback (qe I) (A':=[(b,.map arr' clock')]) ⟨arr',clock',rfl,he',hB',hfi⟩
  have hh:=MapKept.heap_set (o':=.map arr' clock') hb
  have hS3:SL I.k ((b,.map arr' clock')::(B++F)) E { w with heap:=w.heap.setIfInBounds b (.map arr' clock') }:=hS1.turn rfl rfl rfl hh.1 hh.2
  exact kk s I F _ _ (h1.upd d ⟨[_,_],rfl,_,_,rfl,rfl,_,_,rfl,rfl,rfl⟩) ⟨htop,L',h7,hS3.perm (h8.append_right F)⟩
 cases hq:fL k es 0 with
 |none=>
  rw[hq] at hf
  have hg:bg es k=none:=by unfold bg;rw[hq];rfl
  have hl:arr.toList.length=es.length:=by have:=congrArg List.length he;unfold go at this;simpa using this
  refine fin (arr.push { key:=.agg (c.val k),val:=.int .i64 0,born:=clock }) (clock+1) clock ?_ ?_ ?_ ?_
  ·rw[gU hg,hg]
   unfold go at *
   simp only[Array.toList_push,w5,he];rfl
  ·refine ⟨fun x hx=>?_,?_⟩
   ·rw[Array.toList_push] at hx
    rcases List.mem_append.1 hx with hx|hx
    ·have:=hB.1 x hx;omega
    ·rw[List.mem_singleton.1 hx];exact Nat.lt_succ_self _
   ·rw[Array.toList_push,w5,List.nodup_append]
    refine ⟨hB.2,by simp,fun a ha q hq' e=>?_⟩
    obtain ⟨z,hz1,rfl⟩:=List.mem_map.1 ha
    simp at hq'
    have:=hB.1 z hz1
    omega
  ·obtain ⟨j,h5,h6⟩:=xY (es:=es) (k:=k) ((bg es k).getD 0)
   refine ⟨j,_,h5,?_⟩
   have hj:j=es.length:=by
    rcases h6 with h6|⟨w0,h6⟩
    ·exact h6.2
    ·rw[hq] at h6;cases h6
   rw[vT,Array.toList_push,hj,←hl]
   have:=qZ (l:=arr.toList++[{ key:=.agg (c.val k),val:=.int .i64 0,born:=clock }]) (j:=arr.toList.length) (x:={ key:=.agg (c.val k),val:=.int .i64 0,born:=clock }) (by
    rw[w5,List.nodup_append]
    refine ⟨hB.2,by simp,fun a ha q hq' e=>?_⟩
    obtain ⟨z,hz1,rfl⟩:=List.mem_map.1 ha
    simp at hq'
    have:=hB.1 z hz1
    omega) (by simp)
   exact this
  ·rw[hg]
   simp[execOp,hx,hy2,Instr.mapEntry,run_underlying ht,MapKept.run_getObj_map hb,hc,hf,hz,MapKept.run_setObj_map _ hb,Result.andThen,goInt]
 |some q=>
  obtain ⟨j,u0⟩:=q
  rw[hq] at hf
  have hg:bg es k=some u0:=by unfold bg;rw[hq];rfl
  obtain ⟨g1,_⟩:=gz hq
  have hj:=(List.getElem?_eq_some_iff.1 g1).1
  have hl:arr.toList.length=es.length:=by have:=congrArg List.length he;unfold go at this;simpa using this
  obtain ⟨e0,he0⟩:∃e,arr[j]?=some e:=⟨_,Array.getElem?_eq_getElem (by rw[←Array.length_toList];omega)⟩
  have hek:e0.key=.agg (c.val k):=by
   have:=congrArg (fun l=>l[j]?) he
   unfold go at this
   simp only[w2,Array.getElem?_toList,he0,g1,Option.map_some,Option.some.injEq,fp,Prod.mk.injEq] at this
   exact this.1
  have hsame:bT es k ((bg es k).getD 0)=es:=by
   unfold bT;rw[hq,hg]
   refine List.ext_getElem? fun q=>?_
   by_cases e:j=q
   ·subst e;rw[List.getElem?_set_self hj,g1];rfl
   ·rw[List.getElem?_set_ne e]
  have hbm:=om (i:=j) (g:=fun e=>{ e with key:=.agg (c.val k) }) hB (fun _=>rfl)
  refine fin (arr.modify j fun e=>{ e with key:=.agg (c.val k) }) clock e0.born ?_ hbm.1 ?_ ?_
  ·rw[hsame];exact BQ he g1
  ·rw[hsame]
   refine ⟨j,u0,hq,?_⟩
   rw[vT]
   refine qZ (x:={ e0 with key:=.agg (c.val k) }) hbm.1.2 ?_
   rw[Array.getElem?_toList,Array.getElem?_modify,if_pos rfl,he0];rfl
  ·rw[hg]
   simp[execOp,hx,hy2,Instr.mapEntry,run_underlying ht,MapKept.run_getObj_map hb,hc,hf,MapKept.run_setObj_map _ hb,Result.andThen,he0,hek,DK,goInt]
theorem az.entryStoreS {k:κ} {m s:Nat} {v:Int} {es:List (κ × Int)} (hx:aW env x=dA b) (hy:aW env y=.int .i64 (s:Int)) (hz:aW env z=.int .i64 v) (hO:fQ O m (Af c b es k s) (lZ c b (bT es k v)) O')
  (kk:az P E ops K rest env O'):az P E ops K (Oper.mk none (.entryStore t x y z) ty pos af none::rest) env O:=fun I F ρ w h1 ⟨htop,L,hL,hS⟩=>by
 have hx:=fB h1 hx
 have hy:=fK h1 hy
 have hz:=fK h1 hz
 obtain ⟨A,B,hp,⟨arr,clock,rfl,he,hB,i,u0,hq,hfi⟩,hback⟩:=hO.rep hL
 have hS2:SL I.k ((b,.map arr clock)::(B++F)) E w:=hS.perm ((hp.append_right F).symm)
 have hb:=hS2.own _ (.head _)
 simp only at hb
 obtain ⟨g1,_⟩:=gz hq
 have hrun:(execOp (Go.Proofs.YtdilpodccjlkgaaGreatDoor.ev ρ) (Oper.mk none (.entryStore t x y z) ty pos af none)).run P w=.ok .skip { w with heap:=w.heap.setIfInBounds b (.map (arr.modify i fun e=>{ e with val:=.int .i64 v }) clock) }:=by
  simp[execOp,hx,hy,hz,Instr.entryStore,MapKept.run_getObj_map hb,asInt,asIntOf,hfi,MapKept.run_setObj_map _ hb,Result.andThen]
 refine qn Z ?_
 unfold jN
 rw[hrun]
 have hbm:=om (i:=i) (g:=fun e=>{ e with val:=.int .i64 v }) hB (fun _=>rfl)
 obtain ⟨L',h7,h8⟩:=hback (qe I) (A':=[(b,.map (arr.modify i fun e=>{ e with val:=.int .i64 v }) clock)]) ⟨_,clock,rfl,by unfold bT;rw[hq];exact BR he g1,hbm.1⟩
 have hh:=MapKept.heap_set (o':=.map (arr.modify i fun e=>{ e with val:=.int .i64 v }) clock) hb
 have hS3:SL I.k ((b,.map (arr.modify i fun e=>{ e with val:=.int .i64 v }) clock)::(B++F)) E { w with heap:=w.heap.setIfInBounds b (.map (arr.modify i fun e=>{ e with val:=.int .i64 v }) clock) }:=hS2.turn rfl rfl rfl hh.1 hh.2
 exact kk I F ρ _ h1 ⟨htop,L',h7,hS3.perm (h8.append_right F)⟩
end
end
end Go.Proofs.YtdilpodccjlkgaaGreatDoor
namespace Go.Proofs.YtdilpodccjlkgaaGreatDoor
open Go.Proofs.Tryz
def jD (x:aF):Bool:=decide (18≤x.op∧x.op≤24)
section
variable {f:ac} (hD:∀b∈f.blocks,∀x∈b.insts,jD x=true→x.dst<0)
include hD
end
section
variable {f:ac}
end
end Go.Proofs.YtdilpodccjlkgaaGreatDoor
namespace Go.Proofs.YtdilpodccjlkgaaGreatDoor
open Go.Proofs.Tryz
theorem BS {α β:Type} {g:Nat→α→β} {d:β} {n:Nat} {l:List α} {v:Nat} (hl:l.length≤v) (hv:v<n):(dR g d n l)[v]?=some d:=by
 unfold dR
 rw[List.getElem?_append_right (by simpa using hl),List.getElem?_replicate,if_pos (by simp;omega)]
theorem vU (f:ac) (s:GS) (to:Int):(ep f s to).en=s.en∨((ep f s to).en=2∧(ep f s to).ended=true):=by
 unfold ep
 split
 ·left
  have:∀(s t:GS) (l:List dF),(l.foldl (assign s) t).en=t.en:=fun s t l=>by
   induction l generalizing t with
   |nil=>rfl
   |cons p l ih=>rw[List.foldl_cons];exact ih (assign s t p)
  exact this _ _ _
 ·exact .inr ⟨rfl,rfl⟩
theorem G6 {f:ac} {s:GS} (h:s.en=3):(cQ f s).ended=true∨(cQ f s).en=3:=by
 unfold cQ
 split
 ·rename_i x _
  unfold ba
  split
  ·split
   ·exact .inr h
   ·exact .inl rfl
  ·rw[nE]
   cases nD { s with pc:=s.pc+1,st:=s.st+1 } x<;>first|exact .inl rfl|exact .inr h
 ·split
  ·exact .inl rfl
  ·rcases vU f { s with st:=s.st+1 } (lU f s) with h2|h2
   ·exact .inr (h2.trans h)
   ·exact .inl h2.2
theorem BT {f:ac} {s:GS} (h:s.en=3) (h1:(cQ f s).en=1):∃x,(cA f s.blk).insts[s.pc]?=some x∧(18≤x.op∧x.op≤24)∧cZ s x.op x.args=false∧(cQ f s).blk=s.blk∧(cQ f s).pc=s.pc+1:=by
 cases hx:(cA f s.blk).insts[s.pc]? with
 |some x=>
  have hst:cQ f s=ba { s with pc:=s.pc+1,st:=s.st+1 } x:=by unfold cQ;rw[hx]
  rw[hst] at h1 ⊢
  have hpc:=Ac { s with pc:=s.pc+1,st:=s.st+1 } x
  refine ⟨x,Z,?_⟩
  by_cases hc:18≤x.op∧x.op≤24
  ·refine ⟨hc,?_,hpc⟩
   cases hp:cZ s x.op x.args with
   |false=>rfl
   |true=>
    unfold ba at h1
    rw[if_pos hc,if_pos (show cZ { s with pc:=s.pc+1,st:=s.st+1 } x.op x.args=true from hp)] at h1
    have h1:s.en=1:=h1
    omega
  ·unfold ba at h1
   rw[if_neg hc,nE] at h1
   exfalso
   refine tN (P:=fun A=>(BB { s with pc:=s.pc+1,st:=s.st+1 } x.dst A).en=1→False) { s with pc:=s.pc+1,st:=s.st+1 } x ?_ ?_ ?_ ?_ ?_ ?_ ?_ ?_ h1
   ·intro e he h2;exact he h2
   all_goals (intros;rename_i e;unfold BB at e;simp[stI,stB,stA,dq,h] at e)
 |none=>
  exfalso
  unfold cQ at h1
  rw[hx] at h1
  dsimp only at h1
  split at h1
  ·cases h1
  ·rcases vU f { s with st:=s.st+1 } (lU f s) with h2|h2
   ·rw[h2] at h1
    have h1:s.en=1:=h1
    omega
   ·rw[h2.1] at h1;cases h1
section
variable {f:ac} (hR:b7 f)
include hR
theorem ig.beg {i:xH} (hp:f.params.length≤f.vars.length) (ht:∀j,0≤nd f j∧nd f j≤2) (hi:fx f i=0) (h64:xJ i):ig f (k8 f i):=by
 obtain ⟨g,_⟩:=bl.beg hR.run hp ht hi h64
 have hG:=hR.hE.grph
 have hal:i.args.length=f.params.length:=by
  unfold fx at hi
  split at hi
  ·cases hi
  ·rename_i h;exact Classical.not_not.1 h
 have hr:∀r∈i.arrays,r.length≤64:=by
  unfold fx at hi
  split at hi
  ·cases hi
  split at hi
  ·cases hi
  split at hi
  ·cases hi
  split at hi
  ·cases hi
  rename_i h
  intro r hr
  refine Classical.byContradiction fun hn=>h ?_
  exact List.any_eq_true.2 ⟨r,hr,w8 (by omega)⟩
 refine ⟨g,hr,fun v h1 h2 h3=>?_,fun j k x hx ha=>?_,fun c p hd hp hk ht=>?_⟩
 ·show vi (k8 f i).ints v=0
  unfold vi k8
  dsimp only
  rw[BS (by omega) (by omega)];rfl
 ·have ha:cY f ((j:Int),(k:Int)) 0 0:=ha
  rcases ha with h|⟨_,h⟩|⟨_,h,h3⟩
  ·dsimp only at h;omega
  ·dsimp only at h;omega
  ·exact absurd (fm hG h3 (.root h3.rch)) h
 ·have hd:gJ (ah f) c 0:=hd
  have:=fm hG hd (.root hd.rch)
  subst this
  exact absurd rfl (hR.one hd.rch hp).1
theorem vV:∀(n:Nat) (s:GS),ig f s→s.ended=false→((fJ f n s).ended=false∧ig f (fJ f n s))∨∃m,m<n∧ig f (fJ f m s)∧(fJ f m s).ended=false∧fJ f n s=cQ f (fJ f m s)∧(fJ f n s).ended=true
 |0,s,h,he=>.inl ⟨he,h⟩
 |n+1,s,h,he=>by
  have hst:∀k,fJ f (k+1) s=fJ f k (cQ f s):=fun k=>by rw[fJ,if_neg (by rw[he];decide)]
  cases h2:(cQ f s).ended with
  |true=>exact .inr ⟨0,by omega,h,he,by rw[hst,iZ h2];rfl,by rw[hst,iZ h2];exact h2⟩
  |false=>
   rcases vV n _ (h.step hR he h2) h2 with h3|⟨m,h3,h4,h5,h6,h7⟩
   ·rw[hst];exact .inl h3
   ·refine .inr ⟨m+1,by omega,?_⟩
    rw[hst,hst];exact ⟨h4,h5,h6,h7⟩
theorem BU {i:xH} (hp:f.params.length≤f.vars.length) (ht:∀j,0≤nd f j∧nd f j≤2) (hi:fx f i=0) (h64:xJ i) (n:Nat) (h1:(fJ f n (k8 f i)).en=1) :
  ∃(b:Int) (k:Nat) (x:aF),(fJ f n (k8 f i)).blk=b∧(fJ f n (k8 f i)).pc=k+1∧(0≤b∧b<f.blocks.length)∧(cA f b).insts[k]?=some x∧(18≤x.op∧x.op≤24)∧iM f (BI f b k) x=false:=by
 have h0:=ig.beg hR hp ht hi h64
 have hen:∀(n:Nat) (s:GS),s.en=3→(fJ f n s).ended=false→(fJ f n s).en=3:=fun n=>by
  induction n with
  |zero=>exact fun s h _=>h
  |succ n ih=>
   intro s h h2
   cases he:s.ended with
   |true=>rw[iZ he];exact h
   |false=>
    have hst:fJ f (n+1) s=fJ f n (cQ f s):=by rw[fJ,if_neg (by rw[he];decide)]
    rw[hst] at h2 ⊢
    rcases G6 h with h3|h3
    ·rw[iZ h3] at h2;rw[h3] at h2;cases h2
    ·exact ih _ h3 h2
 rcases vV hR n _ h0 rfl with ⟨he,_⟩|⟨m,_,hI,he,hst,_⟩
 ·have:=hen n _ rfl he
  rw[this] at h1;cases h1
 ·have h3:=hen m _ rfl he
  rw[hst] at h1 ⊢
  generalize fJ f m (k8 f i)=s at *
  obtain ⟨x,hx,hc,hp,h5,h6⟩:=BT h3 h1
  refine ⟨s.blk,s.pc,x,h5,h6,⟨hI.g.b0,hI.g.b1⟩,hx,hc,?_⟩
  cases e:iM f (BI f s.blk s.pc) x with
  |false=>rfl
  |true=>rw[hI.never hR hx hc e] at hp;cases hp
end
end Go.Proofs.YtdilpodccjlkgaaGreatDoor
namespace Go.Proofs.YtdilpodccjlkgaaGreatDoor
open Go.Proofs.Tryz
def rS (f:ac):KS→List aF→List Bool
 |_,[]=>[]
 |K,x::l=>(if jD x=true then[iM f K x] else[])++rS f (d5 f K x) l
def kE (f:ac) (b:Int):KS:=og f (vN f (Eo f b).tail) b
def DL (f:ac) (b:Int):List Bool:=rS f (kE f b) (cA f b).insts
def Ep (f:ac):List Bool:=(bw f.blocks.length).flatMap (DL f)
def rB (l:List aF):Nat:=(l.filter jD).length
def kF (f:ac) (k:Nat):Nat:=((f.blocks.take k).map fun b=>rB b.insts).sum
theorem tU (f:ac):∀(l:List aF) (K:KS),(rS f K l).length=rB l
 |[],_=>rfl
 |x::l,K=>by
  unfold rS rB
  rw[qz,tU f l,List.filter_cons]
  unfold rB
  split<;>simp<;>omega
theorem DM (f:ac):∀{l:List aF} {K:KS} {k:Nat} {x:aF},l[k]?=some x→jD x=true→(rS f K l)[rB (l.take k)]?=some (iM f ((l.take k).foldl (d5 f) K) x)
 |y::l,K,0,x,h,hc=>by
  cases h
  show (rS f K (y::l))[0]?=some (iM f K y)
  unfold rS
  rw[if_pos hc];rfl
 |y::l,K,k+1,x,h,hc=>by
  have ih:=DM f (l:=l) (K:=d5 f K y) (k:=k) (x:=x) h hc
  unfold rS
  have e:rB ((y::l).take (k+1))=(if jD y=true then[iM f K y] else[]).length+rB (l.take k):=by
   unfold rB
   rw[List.take_succ_cons,List.filter_cons]
   split<;>simp<;>omega
  rw[e,List.getElem?_append_right (by omega),Nat.add_sub_cancel_left]
  exact ih
theorem Ag {α β:Type} (g:α→List β):∀{l:List α} {i:Nat} {a:α},l[i]?=some a→∀{j:Nat},j<(g a).length→(l.flatMap g)[((l.take i).map fun c=>(g c).length).sum+j]?=(g a)[j]?
 |c::l,0,a,h,j,hj=>by
  cases h
  rw[List.flatMap_cons]
  show (g c++_)[0+j]?=_
  rw[Nat.zero_add,List.getElem?_append_left hj]
 |c::l,i+1,a,h,j,hj=>by
  have ih:=Ag g (l:=l) (i:=i) h hj
  rw[List.flatMap_cons,List.take_succ_cons,List.map_cons,List.sum_cons,Nat.add_assoc,List.getElem?_append_right (by omega),Nat.add_sub_cancel_left]
  exact ih
theorem Ah {f:ac} {i:Nat} {b:aX} (h:f.blocks[i]?=some b):(DL f (i:Int)).length=rB b.insts:=by
 unfold DL;rw[tU,du h]
theorem tV (f:ac):∀i:Nat,i≤f.blocks.length→(((bw f.blocks.length).take i).map fun c=>(DL f c).length).sum=kF f i
 |0,_=>by unfold kF;simp
 |i+1,h=>by
  have ih:=tV f i (by omega)
  have hb:=qt (show i<f.blocks.length by omega)
  unfold kF at ih ⊢
  rw[List.take_add_one,eo (by omega),List.take_add_one,hb,w5,List.sum_append,ih,w5,List.sum_append]
  show _+([(i:Int)].map _).sum=_+([_].map _).sum
  simp only[List.map_cons,List.map_nil,List.sum_cons,List.sum_nil,Nat.add_zero]
  rw[Ah hb]
theorem G7 {f:ac} {i k:Nat} {b:aX} {x:aF} (hb:f.blocks[i]?=some b) (hx:b.insts[k]?=some x) (hc:jD x=true):(Ep f)[kF f i+rB (b.insts.take k)]?=some (iM f (BI f (i:Int) k) x):=by
 have hi:=(List.getElem?_eq_some_iff.1 hb).1
 have h1:=DM f (K:=kE f (i:Int)) hx hc
 have hl:rB (b.insts.take k)<(DL f (i:Int)).length:=by
  unfold DL
  rw[du hb]
  exact (List.getElem?_eq_some_iff.1 h1).1
 have:=Ag (DL f) (l:=bw f.blocks.length) (i:=i) (a:=(i:Int)) (eo hi) hl
 rw[tV f i (by omega)] at this
 unfold Ep
 rw[this]
 unfold DL BI
 rw[du hb]
 exact h1
theorem Fz (f:ac):(Ep f).length=kF f f.blocks.length:=by
 rw[←tV f _ (Nat.le_refl _)]
 unfold Ep
 rw[List.length_flatMap]
 congr 2
 exact (List.take_of_length_le (by rw[bX];exact Nat.le_refl _)).symm
theorem BV {f:ac} (hR:b7 f) {i:xH} (hp:f.params.length≤f.vars.length) (ht:∀j,0≤nd f j∧nd f j≤2) (hi:fx f i=0) (h64:xJ i) (n:Nat) (h1:(fJ f n (k8 f i)).en=1) :
  ∃(b k:Nat) (B:aX),(fJ f n (k8 f i)).blk=b∧(fJ f n (k8 f i)).pc=k+1∧f.blocks[b]?=some B∧k<B.insts.length∧(Ep f)[kF f b+rB (B.insts.take k)]?=some false:=by
 obtain ⟨b,k,x,e1,e2,⟨h0,h2⟩,hx,hc,hp⟩:=BU hR hp ht hi h64 n h1
 obtain ⟨j,rfl⟩:∃j:Nat,b=(j:Int):=⟨b.toNat,by omega⟩
 have hb:=qt (show j<f.blocks.length by omega)
 rw[du hb] at hx
 refine ⟨j,k,_,e1,e2,hb,(List.getElem?_eq_some_iff.1 hx).1,?_⟩
 rw[G7 hb hx (w8 hc),hp]
end Go.Proofs.YtdilpodccjlkgaaGreatDoor
namespace Go.Proofs.YtdilpodccjlkgaaGreatDoor
open Go.Proofs.Tryz
abbrev K4:=Int × Int × Int × Int
def k4 (k:K4):List AV:=[.int .i64 k.1,.int .i64 k.2.1,.int .i64 k.2.2.1,.int .i64 k.2.2.2]
def v4 (k:K4):Value:=.agg #[.int .i64 k.1,.int .i64 k.2.1,.int .i64 k.2.2.1,.int .i64 k.2.2.2]
def kf (k:K4):List (K4 × Int)→Nat→Option (Nat × Int)
 |[],_=>none
 |(k',v)::es,i=>if k=k' then some (i,v) else kf k es (i+1)
section
variable {P:Program} {kt:TypeId} {w:World}
end
section
variable {E:World} {P:Program} {ops:Array Oper} {K:aR→OL→Prop} {env:aR} {O O' O'':OL} {rest:List Oper} {n:Nat}
variable {d ty:Nat} {pos:String} {af:Array Edge} {x y z:Operand} {t u e T kt:TypeId} {b:Nat}
end
end Go.Proofs.YtdilpodccjlkgaaGreatDoor
namespace Go.Proofs.YtdilpodccjlkgaaGreatDoor
open Go.Proofs.Tryz
def IM (x:aF):Int:=if 0<x.args.length then (x.args[0]?).getD 0 else -1
def IO (x:aF):Int:=if 1<x.args.length then (x.args[1]?).getD 0 else -1
def H9 (x:aF):K4:=if HZ x.op=true∧IO x<IM x then (x.op,x.num,IO x,IM x) else (x.op,x.num,IM x,IO x)
structure IP (f:ac) (r:Int→Int):Prop where
 same:∀i k x j q y,ka f i k x→ka f j q y→(H9 (vL r x)=H9 (vL r y)↔Dq (vL r x) (vL r y)=true)
section
variable {f:ac} {r:Int→Int} {rk:Nat→Nat→Nat} (hH:IK f rk) (hr:H0 f r) (hK:IP f r)
include hH hr hK
end
end Go.Proofs.YtdilpodccjlkgaaGreatDoor
namespace Go.Proofs.YtdilpodccjlkgaaGreatDoor
open Go.Proofs.Tryz
section
variable {S:Int→List Int} {n:Nat} (hG:fS S n)
def ed (S:Int→List Int) (n:Nat) (i:Int):List Int:=(bw n).filter fun c=>decide (gi (bh S n) c≠-1)&&decide (gi (bh S n) c=i)
include hG
theorem re {i c:Int} (hall:∀j:Int,0≤j→j<n→j∈aB S n) (hi:0≤i):c∈ed S n i↔(0≤c∧c<n)∧c≠0∧gi (bt S n) c=i:=by
 unfold ed
 simp only[List.mem_filter,wa,wg,cX]
 constructor
 ·rintro ⟨⟨h0,h1⟩,h2,h3⟩
  have hc:c≠0:=fun e=>by rw[e,oT hG.npos] at h2;exact h2 rfl
  exact ⟨⟨h0,h1⟩,hc,by rw[eD h0 hc] at h3;exact h3⟩
 ·rintro ⟨⟨h0,h1⟩,hc,h3⟩
  refine ⟨⟨h0,h1⟩,?_,by rw[eD h0 hc];exact h3⟩
  rw[eD h0 hc,h3];omega
theorem lM {i c:Int} (hall:∀j:Int,0≤j→j<n→j∈aB S n) (hi:0≤i) (h:c∈ed S n i):(∀j,gJ S j c↔j=c∨gJ S j i)∧i∈aB S n∧c∈aB S n∧gi (bP S n) c=gi (bP S n) i+1:=by
 obtain ⟨⟨h0,h1⟩,hc,hN⟩:=(re hG hall hi).1 h
 have hco:=hall c h0 h1
 obtain ⟨g1,g2⟩:=hG.near_mem hco hc
 rw[hN] at g1
 have hl:=hG.lev_near hco hc
 rw[hN] at hl
 refine ⟨fun j=>?_,g1,hco,hl⟩
 rw[hG.dom_iff hco,hG.dom_iff g1]
 constructor
 ·intro ha
  rcases ha.cases' with e|⟨_,_,h3⟩
  ·exact .inl e
  ·rw[hN] at h3;exact .inr h3
 ·rintro (rfl|ha)
  ·exact .refl _
  ·exact .up hc (hG.exact.has c hco) (by rw[hN];exact ha)
theorem tW {i c:Int} (hall:∀j:Int,0≤j→j<n→j∈aB S n) (hi:0≤i) (h:c∈ed S n i):¬gJ S c i∧c≠i:=by
 obtain ⟨h1,h2,h3,h4⟩:=lM hG hall hi h
 refine ⟨fun hd=>?_,fun e=>by rw[e] at h4;omega⟩
 have:=(hG.lev_anc h2 ((hG.dom_iff h2).1 hd)).2.1
 omega
theorem BW {i c d j:Int} (hall:∀j:Int,0≤j→j<n→j∈aB S n) (hi:0≤i) (h:c∈ed S n i) (k:d∈ed S n i) (hne:c≠d) (h1:gJ S c j) (h2:gJ S d j):False:=by
 rcases BF hG h1 h2 with h3|h3
 ·rcases ((lM hG hall hi h).1 d).1 h3 with e|e
  ·exact hne e.symm
  ·exact (tW hG hall hi k).1 e
 ·rcases ((lM hG hall hi k).1 c).1 h3 with e|e
  ·exact hne e
  ·exact (tW hG hall hi h).1 e
theorem DN {i j:Int} (hall:∀j:Int,0≤j→j<n→j∈aB S n) (hi:0≤i) (hj:j∈aB S n):gJ S i j↔j=i∨∃c∈ed S n i,gJ S c j:=by
 constructor
 ·intro h
  have ha:=(hG.dom_iff hj).1 h
  clear h
  induction ha with
  |refl x=>exact .inl rfl
  |@up x a hx hN ht ih=>
   have hr:=dg hG.toEOk hj
   obtain ⟨g1,_⟩:=hG.near_mem hj hx
   right
   rcases ih hi g1 with e|⟨c,hc,hd⟩
   ·exact ⟨x,(re hG hall hi).2 ⟨hr,hx,e⟩,⟨(bQ hG.toEOk x).1 hj,fun hw=>hw.end_ rfl⟩⟩
   ·exact ⟨c,hc,(hG.dom_iff hj).2 (.up hx hN ((hG.dom_iff g1).1 hd))⟩
 ·rintro (rfl|⟨c,hc,hd⟩)
  ·exact ⟨(bQ hG.toEOk j).1 hj,fun hw=>hw.end_ rfl⟩
  ·obtain ⟨h1,h2,h3,_⟩:=lM hG hall hi hc
   have hic:=(h1 i).2 (.inr ⟨(bQ hG.toEOk i).1 h2,fun hw=>hw.end_ rfl⟩)
   exact (hG.dom_iff hj).2 (((hG.dom_iff hj).1 hd).trans ((hG.dom_iff h3).1 hic))
omit hG in
theorem xZ (i:Int):(ed S n i).Nodup:=by
 unfold ed
 refine List.Nodup.sublist List.filter_sublist ?_
 unfold bw List.Nodup
 rw[List.pairwise_map]
 exact List.Pairwise.imp (fun h e=>h (Int.ofNat.inj e)) (List.nodup_range (n:=n))
end
end Go.Proofs.YtdilpodccjlkgaaGreatDoor
namespace Go.Proofs.YtdilpodccjlkgaaGreatDoor
open Go.Proofs.Tryz
def cq {α:Type} (p:α→Bool) (l:List α) (k:Nat):Nat:=((l.take k).filter p).length
end Go.Proofs.YtdilpodccjlkgaaGreatDoor
namespace Go.Proofs.YtdilpodccjlkgaaGreatDoor
open Go.Proofs.Tryz
def Dk (V:Int→Bool) (i k:Nat):gB→Bool:=fun m=>V m.1||(decide (m.1=(i:Int))&&decide (m.2<(k:Int)))
def G8 (f:ac) (V:Int→Bool) (i:Int):Prop:=(∀j,gJ (ah f) j i→j≠i→V j=true)∧∀j,gJ (ah f) i j→V j=false
section
variable {f:ac} (hG:fS (ah f) f.blocks.length) (hall:∀j:Int,0≤j→j<f.blocks.length→j∈aB (ah f) f.blocks.length)
def ii (f:ac) (V:Int→Bool) (i:Int) (l:List Int):Int→Bool:=fun j=>(V j||decide (j=i))||l.any fun c=>fT (ah f) f.blocks.length c j
include hG hall
theorem FA {V:Int→Bool} {i:Int} (hi:0≤i) (hV:G8 f V i) {l:List Int} {q:Nat} (hq:q<l.length) (hk:∀c∈l,c∈ed (ah f) f.blocks.length i) (hn:l.Nodup):G8 f (ii f V i (l.take q)) l[q]:=by
 have hc:=hk _ (qx hq)
 obtain ⟨h1,h2,h3,h4⟩:=lM hG hall hi hc
 obtain ⟨g1,g2⟩:=tW hG hall hi hc
 refine ⟨fun j hj hne=>?_,fun j hj=>?_⟩
 ·unfold ii
  rcases (h1 j).1 hj with e|hd
  ·exact absurd e hne
  ·by_cases e:j=i
   ·simp[e]
   ·rw[hV.1 j hd e];simp
 ·unfold ii
  have hi2:gJ (ah f) i l[q]:=(h1 i).2 (.inr (.refl ((bQ hG.toEOk i).1 h2)))
  have e1:V j=false:=hV.2 j (hi2.trans hj)
  have e2:j≠i:=fun e=>g1 (by rw[←e];exact hj)
  rw[e1]
  simp only[Bool.false_or,Bool.or_eq_false_iff,decide_eq_false_iff_not,List.any_eq_false]
  refine ⟨e2,fun c hcm hd=>?_⟩
  obtain ⟨p,hp,e⟩:=List.getElem_of_mem hcm
  rw[w7] at hp
  rw[List.getElem_take] at e
  have hne:c≠l[q]:=fun e3=>by
   have:=(List.getElem_inj hn).1 (e.trans e3)
   omega
  exact BW hG hall hi (hk c (List.mem_of_mem_take hcm)) hc hne ((hG.domB_iff c j).1 hd) hj
omit hG hall in
theorem vW {V:Int→Bool} {i:Int} {l:List Int} {q:Nat} (hq:q<l.length) (j:Int):(ii f V i (l.take q) j||fT (ah f) f.blocks.length l[q] j)=ii f V i (l.take (q+1)) j:=by
 unfold ii
 rw[qu hq,List.any_append];simp[Bool.or_assoc]
theorem Ai {V:Int→Bool} {i:Int} (hi:0≤i) {j:Int} (h0:0≤j) (h1:j<f.blocks.length):ii f V i (ed (ah f) f.blocks.length i) j=(V j||fT (ah f) f.blocks.length i j):=by
 unfold ii
 rw[Bool.or_assoc]
 congr 1
 rw[w3,hG.domB_iff,DN hG hall hi (hall j h0 h1)]
 simp only[Bool.or_eq_true,wg,List.any_eq_true]
 refine or_congr Iff.rfl ⟨fun ⟨c,h2,h3⟩=>⟨c,h2,(hG.domB_iff c j).1 h3⟩,fun ⟨c,h2,h3⟩=>⟨c,h2,(hG.domB_iff c j).2 h3⟩⟩
end
end Go.Proofs.YtdilpodccjlkgaaGreatDoor
namespace Go.Proofs.YtdilpodccjlkgaaGreatDoor
open Go.Proofs.Tryz
section
variable {E:Int→List Int} {n:Nat} (hE:fS E n)
include hE
theorem rg:∀(k m:Nat) (b:Int),b∈aB E n→gi (bP E n) b<k→gi (bP E n) b<m→db (bt E n) k b=db (bt E n) m b
 |0,_,b,hb,hk,_=>by have:=hE.lev_nn hb;omega
 |_,0,b,hb,_,hk=>by have:=hE.lev_nn hb;omega
 |k+1,m+1,b,hb,hk,hm=>by
  unfold db
  by_cases h0:b=0
  ·rw[if_pos h0,if_pos h0]
  ·rw[if_neg h0,if_neg h0]
   obtain ⟨g1,_⟩:=hE.near_mem hb h0
   have hl:=hE.lev_near hb h0
   rw[rg k m _ g1 (by omega) (by omega)]
end
section
variable {f:ac} (hR:b7 f)
include hR
theorem FB {i c:Int} (hc:0≤c∧c<f.blocks.length) (h0:c≠0) (hn:gi (bt (ah f) f.blocks.length) c=i):vN f (Eo f c).tail=Dw f (kE f i) i:=by
 have hG:=hR.hE.grph
 obtain ⟨cn,rfl⟩:∃cn:Nat,c=(cn:Int):=⟨c.toNat,by omega⟩
 have hm:=(bQ hG.toEOk (cn:Int)).2 (hR.hs.2.1 cn (by omega))
 have hlv:=hR.lev (i:=cn) (by omega)
 have hnl:=hG.lev_near hm h0
 obtain ⟨g1,_⟩:=hG.near_mem hm h0
 rw[hn] at hnl g1
 have hi0:=hG.lev_nn g1
 unfold Eo
 obtain ⟨m,hm2⟩:∃m,f.blocks.length=m+1:=⟨f.blocks.length - 1,by omega⟩
 have e1:db (bt (ah f) f.blocks.length) f.blocks.length (cn:Int)=(cn:Int)::db (bt (ah f) f.blocks.length) m i:=by
  conv=>lhs;rw[show db (bt (ah f) f.blocks.length) f.blocks.length (cn:Int)=db (bt (ah f) f.blocks.length) (m+1) (cn:Int) from by rw[←hm2]]
  show (cn:Int)::(if (cn:Int)=0 then[] else db (bt (ah f) f.blocks.length) m (gi (bt (ah f) f.blocks.length) (cn:Int)))=_
  rw[if_neg h0,hn]
 rw[e1,List.tail_cons,rg hG m f.blocks.length i g1 (by omega) (by omega)]
 unfold kE Eo
 have e2:db (bt (ah f) f.blocks.length) f.blocks.length i=i::(db (bt (ah f) f.blocks.length) f.blocks.length i).tail:=by
  conv=>lhs;rw[show db (bt (ah f) f.blocks.length) f.blocks.length i=db (bt (ah f) f.blocks.length) (m+1) i from by rw[←hm2]]
  conv=>rhs;rw[show db (bt (ah f) f.blocks.length) f.blocks.length i=db (bt (ah f) f.blocks.length) (m+1) i from by rw[←hm2]]
  rfl
 rw[e2];rfl
theorem DO:vN f (Eo f 0).tail=dI f:=by
 have:=hR.run.pos
 unfold Eo
 obtain ⟨m,hm2⟩:∃m,f.blocks.length=m+1:=⟨f.blocks.length - 1,by omega⟩
 rw[show db (bt (ah f) f.blocks.length) f.blocks.length 0=db (bt (ah f) f.blocks.length) (m+1) 0 from by rw[←hm2]]
 unfold db
 rw[if_pos rfl];rfl
end
def oo (f:ac) (i:Int):Int:=if (cA f i).term.kind=1 then gf f (Dw f (kE f i) i) 100000 (cA f i).term.var else 0
def fN (f:ac) (V:Int→Bool):List Int:=(bw f.blocks.length).map fun j=>if V j=true then oo f j else 0
theorem fq (f:ac) (V:Int→Bool):(fN f V).length=f.blocks.length:=by unfold fN;rw[w1,bX]
theorem m0 {f:ac} {V:Int→Bool} {j:Nat} (h:j<f.blocks.length):(fN f V)[j]?=some (if V (j:Int)=true then oo f (j:Int) else 0):=by
 unfold fN;rw[w2,eo h];rfl
theorem DP {f:ac} {V W:Int→Bool} {i:Nat} (hi:i<f.blocks.length) (h1:W (i:Int)=true) (h2:∀j:Int,j≠i→W j=V j):(fN f V).set i (oo f (i:Int))=fN f W:=by
 refine List.ext_getElem? fun j=>?_
 by_cases e:i=j
 ·subst e
  rw[List.getElem?_set_self (by rw[fq];exact hi),m0 hi,if_pos h1]
 ·rw[List.getElem?_set_ne e]
  by_cases hj:j<f.blocks.length
  ·rw[m0 hj,m0 hj,h2 _ (by omega)]
  ·rw[List.getElem?_eq_none (by rw[fq];omega),List.getElem?_eq_none (by rw[fq];omega)]
theorem x8 {f:ac} {V W:Int→Bool} (h:∀j:Int,0≤j→j<f.blocks.length→V j=W j):fN f V=fN f W:=by
 unfold fN
 exact List.map_congr_left fun j hj=>by rw[h j (cX.1 hj).1 (cX.1 hj).2]
def lf (f:ac) (m:gB):Bool:=decide (0≤m.1∧0≤m.2)&&match (cA f m.1).insts[m.2.toNat]? with|some x=>jD x&&iM f (BI f m.1 m.2.toNat) x|none=>false
def gG (f:ac) (D:gB→Bool) (T:List (gB × Int)):Prop:=∀m:gB,bg T m=if (D m&&lf f m)=true then some 1 else none
theorem gG.congr {f:ac} {D D':gB→Bool} {T:List (gB × Int)} (h:gG f D T) (e:∀m,lf f m=true→D m=D' m):gG f D' T:=fun m=>by
 rw[h m]
 cases hp:lf f m with
 |false=>simp
 |true=>rw[e m hp]
theorem gG.emp (f:ac):gG f (fun _=>false) []:=fun m=>by rw[qW.2 (by simp)];rfl
theorem vX {f:ac} {i k:Nat} {b:aX} {x:aF} (hb:f.blocks[i]?=some b) (hx:b.insts[k]?=some x):lf f ((i:Int),(k:Int))=(jD x&&iM f (BI f (i:Int) k) x):=by
 unfold lf
 dsimp only
 rw[w8 ⟨by omega,by omega⟩,Bool.true_and,Int.toNat_natCast,du hb,hx]
theorem Aj {V:Int→Bool} {i k:Nat} {m:gB} (hne:¬m=((i:Int),(k:Int))):Dk V i (k+1) m=Dk V i k m:=by
 unfold Dk
 congr 1
 by_cases e1:m.1=(i:Int)
 ·simp only[e1,decide_true,Bool.true_and]
  rw[decide_eq_decide]
  have:m.2≠(k:Int):=fun e=>hne (Prod.ext e1 e)
  push_cast;omega
 ·simp[e1]
theorem gG.skip {f:ac} {V:Int→Bool} {i k:Nat} {T:List (gB × Int)} (h:gG f (Dk V i k) T) (hp:lf f ((i:Int),(k:Int))=false):gG f (Dk V i (k+1)) T:=h.congr fun m hm=>(Aj fun e=>by rw[e,hp] at hm;cases hm).symm
theorem gG.put {f:ac} {V:Int→Bool} {i k:Nat} {T:List (gB × Int)} (h:gG f (Dk V i k) T) (hV:V (i:Int)=false) (hp:lf f ((i:Int),(k:Int))=true):gG f (Dk V i (k+1)) (bT T ((i:Int),(k:Int)) 1):=fun m=>by
 have hn:bg T ((i:Int),(k:Int))=none:=by
  rw[h,if_neg]
  unfold Dk
  simp[hV]
 rw[qX hn]
 split
 ·rename_i e
  subst e
  rw[hp,if_pos]
  unfold Dk;simp;right;omega
 ·rename_i e
  rw[h m,Aj e]
theorem gG.last {f:ac} {V:Int→Bool} {i:Nat} {b:aX} (hb:f.blocks[i]?=some b) {T:List (gB × Int)} (h:gG f (Dk V i b.insts.length) T):gG f (fun m=>V m.1||decide (m.1=(i:Int))) T:=h.congr fun m hm=>by
 unfold Dk
 by_cases e:m.1=(i:Int)
 ·unfold lf at hm
  rw[wa] at hm
  have h0:=wd hm.1
  have h1:=hm.2
  rw[e,du hb] at h1
  have:m.2<(b.insts.length:Int):=by
   refine Classical.byContradiction fun hn=>?_
   rw[List.getElem?_eq_none (by omega)] at h1
   cases h1
  simp[e,this]
 ·simp[e]
end Go.Proofs.YtdilpodccjlkgaaGreatDoor
namespace Go.Proofs.YtdilpodccjlkgaaGreatDoor
open Go.Proofs.Tryz
section
variable {f:ac} (hR:b7 f)
include hR
theorem b7.memO {b:Int} (h:0≤b∧b<f.blocks.length):b∈aB (ah f) f.blocks.length:=by
 obtain ⟨j,rfl⟩:∃j:Nat,b=(j:Int):=⟨b.toNat,by omega⟩
 exact (bQ hR.hE.grph.toEOk _).2 (hR.hs.2.1 j (by omega))
end
end Go.Proofs.YtdilpodccjlkgaaGreatDoor
namespace Go.Proofs.YtdilpodccjlkgaaGreatDoor
open Go.Proofs.Tryz
section
variable {f:ac} (hR:b7 f)
include hR
theorem b7.rk0 {v:Int} {y:aF} (h:dz f v=some y) (hl:0<y.args.length):rz f (bj y)<rz f v:=hR.rk_arg h _ (Dz hl)
theorem b7.rk1 {v:Int} {y:aF} (h:dz f v=some y) (hl:1<y.args.length):rz f (bY y)<rz f v:=hR.rk_arg h _ (H2 hl)
theorem lg (K:KS):∀(n m:Nat) (v:Int),rz f v<n→rz f v<m→gf f K n v=gf f K m v
 |0,_,_,h,_=>by omega
 |_,0,_,_,h=>by omega
 |n+1,m+1,v,hn,hm=>by
  unfold gf
  cases hx:dz f v with
  |none=>rfl
  |some x=>
   obtain ⟨hF,_,_⟩:=hR.madeF hx
   have a0:∀{k:Int},x.op=k→0<([0,1,2,2,2,2,2,2,2,2,1,2,1,2,3,1,0,1,2,1,1,2,2,2,1,2,2][k.toNat]?).getD 0→gf f K n (bj x)=gf f K m (bj x):=fun e h=>by
    have:=hR.rk0 hx (by rw[hF.cnt e];exact h)
    exact lg K n m _ (by omega) (by omega)
   have a1:∀{k:Int},x.op=k→1<([0,1,2,2,2,2,2,2,2,2,1,2,1,2,3,1,0,1,2,1,1,2,2,2,1,2,2][k.toNat]?).getD 0→gf f K n (bY x)=gf f K m (bY x):=fun e h=>by
    have:=hR.rk1 hx (by rw[hF.cnt e];exact h)
    exact lg K n m _ (by omega) (by omega)
   dsimp only
   by_cases h8:x.op=8
   ·rw[if_pos h8,if_pos h8]
   by_cases h9:x.op=9
   ·rw[if_neg h8,if_neg h8,if_pos h9,if_pos h9]
   by_cases h7:x.op=7
   ·rw[if_neg h8,if_neg h8,if_neg h9,if_neg h9,if_pos h7,if_pos h7]
   by_cases h1:x.op=1
   ·rw[if_neg h8,if_neg h8,if_neg h9,if_neg h9,if_neg h7,if_neg h7,if_pos h1,if_pos h1,a0 h1 (by decide)]
   by_cases h10:x.op=10
   ·rw[if_neg h8,if_neg h8,if_neg h9,if_neg h9,if_neg h7,if_neg h7,if_neg h1,if_neg h1,if_pos h10,if_pos h10,a0 h10 (by decide)]
   by_cases h11:x.op=11
   ·rw[if_neg h8,if_neg h8,if_neg h9,if_neg h9,if_neg h7,if_neg h7,if_neg h1,if_neg h1,if_neg h10,if_neg h10,if_pos h11,if_pos h11,a0 h11 (by decide),a1 h11 (by decide)]
   ·rw[if_neg h8,if_neg h8,if_neg h9,if_neg h9,if_neg h7,if_neg h7,if_neg h1,if_neg h1,if_neg h10,if_neg h10,if_neg h11,if_neg h11]
end
end Go.Proofs.YtdilpodccjlkgaaGreatDoor
namespace Go.Proofs.YtdilpodccjlkgaaGreatDoor
open Go.Proofs.Tryz
abbrev gg:=Int × Bool
def fO (es:List (gg × Int)):Int:=(es.map (·.2)).sum
theorem DQ (es:List (gg × Int)) (k:gg) (v:Int):fO (es++[(k,v)])=fO es+v:=by unfold fO;simp
theorem DR:∀{es:List (gg × Int)} {j:Nat} {k:gg} {u:Int} (v:Int),es[j]?=some (k,u)→fO (es.set j (k,v))=fO es - u+v
 |x::es,0,k,u,v,h=>by
  cases h
  unfold fO
  simp only[List.set_cons_zero,List.map_cons,List.sum_cons];omega
 |x::es,j+1,k,u,v,h=>by
  have ih:=DR (es:=es) (j:=j) v h
  unfold fO at ih ⊢
  rw[List.set_cons_succ,List.map_cons,List.sum_cons,ih,List.map_cons,List.sum_cons];omega
theorem Ak (es:List (gg × Int)) (k:gg) (v:Int):fO (bT es k v)=fO es - (bg es k).getD 0+v:=by
 cases h:fL k es 0 with
 |none=>
  have hg:bg es k=none:=by unfold bg;rw[h];rfl
  rw[gU hg,DQ,hg];simp
 |some q=>
  obtain ⟨j,u⟩:=q
  have hg:bg es k=some u:=by unfold bg;rw[h];rfl
  have h1:bT es k v=es.set j (k,v):=by unfold bT;rw[h]
  rw[h1,DR v (gz h).1,hg];rfl
theorem nL (es:List (gg × Int)) (k k':gg) (v:Int):bg (bT es k v) k'=if k'=k then some v else bg es k':=by
 cases h:fL k es 0 with
 |none=>exact qX (by unfold bg;rw[h];rfl) v k'
 |some q=>
  split
  ·rename_i e
   subst e
   obtain ⟨j,hj,_⟩:=xY (es:=es) (k:=k') v
   unfold bg;rw[hj];rfl
  ·rename_i hne
   obtain ⟨j,u⟩:=q
   have h1:bT es k v=es.set j (k,v):=by unfold bT;rw[h]
   rw[h1]
   have key:∀(es:List (gg × Int)) (i j:Nat),(∀x,es[j]?=some x→x.1=k)→(fL k' (es.set j (k,v)) i).map (·.2)=(fL k' es i).map (·.2):=fun es=>by
    induction es with
    |nil=>intro i j _;rfl
    |cons x es ih=>
     intro i j hx
     obtain ⟨k2,w⟩:=x
     cases j with
     |zero=>
      have:k2=k:=hx _ rfl
      subst this
      rw[List.set_cons_zero]
      unfold fL
      rw[if_neg hne,if_neg hne]
     |succ j=>
      rw[List.set_cons_succ]
      unfold fL
      split
      ·rfl
      ·exact ih (i+1) j hx
   have h2:=(gz h).1
   exact key es 0 j fun x hx=>by rw[h2] at hx;cases hx;rfl
structure iO (f:ac) (es:List (gg × Int)) (q:kz):Prop where
 get:∀k,(bg es k).isSome=q.seen.contains k
 pos:∀e∈es,1≤e.2
 nod:q.seen.Nodup
 rng:∀k∈q.seen,bd f k.1=true
 out:q.out.length≤q.seen.length
section
variable {f:ac} {es:List (gg × Int)} {q:kz}
theorem iO.emp (f:ac):iO f [] ⟨[],[]⟩:=⟨fun k=>rfl,fun e he=>(by cases he),List.nodup_nil,fun k hk=>(by cases hk),Nat.le_refl _⟩
theorem tX:∀(es:List (gg × Int)),(∀e∈es,1≤e.2)→0≤fO es
 |[],_=>by decide
 |x::es,h=>by
  have:=tX es fun e he=>h e (.tail _ he)
  have:=h x (.head _)
  unfold fO at *
  rw[List.map_cons,List.sum_cons];omega
theorem Al:∀(es:List (gg × Int)),(∀e∈es,1≤e.2)→∀e∈es,e.2≤fO es
 |x::es,h,e,he=>by
  have h1:=tX es fun e he=>h e (.tail _ he)
  have h2:=h x (.head _)
  have e1:fO (x::es)=x.2+fO es:=by unfold fO;simp
  rw[e1]
  rcases List.mem_cons.1 he with rfl|he
  ·omega
  ·have:=Al es (fun e he=>h e (.tail _ he)) e he;omega
theorem vY {k:gg} {v:Int} (h:bg es k=some v):(k,v)∈es:=by
 unfold bg at h
 cases hq:fL k es 0 with
 |none=>rw[hq] at h;cases h
 |some p=>
  obtain ⟨j,u⟩:=p
  rw[hq] at h
  cases h
  exact w4 (gz hq).1
theorem iO.val (h:iO f es q) (k:gg):0≤(bg es k).getD 0∧(bg es k).getD 0≤fO es∧(q.seen.contains k=true↔1≤(bg es k).getD 0):=by
 have hg:=h.get k
 have hn:=tX es h.pos
 cases hk:bg es k with
 |none=>rw[hk] at hg;rw[←hg];simp;exact hn
 |some v=>
  rw[hk] at hg
  rw[←hg]
  have:=h.pos _ (vY hk)
  have:=Al es h.pos _ (vY hk)
  simp at *;omega
theorem Am (h:∀e∈es,1≤e.2) (k:gg) {v:Int} (hv:1≤v):∀e∈bT es k v,1≤e.2:=fun e he=>by
 unfold bT at he
 split at he
 ·rcases fw he with he|he
  ·exact h e he
  ·rw[he];exact hv
 ·rcases List.mem_append.1 he with he|he
  ·exact h e he
  ·rw[List.mem_singleton.1 he];exact hv
theorem iO.len (h:iO f es q):q.seen.length≤2*f.vars.length:=by
 have hsub:∀k∈q.seen,k∈(bw f.vars.length).flatMap fun i=>[(i,true),(i,false)]:=fun k hk=>by
  have hr:0≤k.1∧k.1<f.vars.length:=by simpa [bd] using h.rng k hk
  refine List.mem_flatMap.2 ⟨k.1,cX.2 hr,?_⟩
  obtain ⟨a,b⟩:=k
  cases b<;>simp
 have h1:=List.Nodup.length_le_of_subset h.nod hsub
 have h2:∀l:List Int,(l.flatMap fun i=>[(i,true),(i,false)]).length=2*l.length:=fun l=>by
  induction l with
  |nil=>rfl
  |cons a l ih=>
   rw[List.flatMap_cons,qz,ih,List.length_cons]
   show 2+2*l.length=2*(l.length+1)
   omega
 have h2:=h2 (bw f.vars.length)
 rw[bX] at h2
 omega
theorem iO.old (h:iO f es q) {k:gg} (hk:q.seen.contains k=true):iO f (bT es k ((bg es k).getD 0+1)) q∧fO (bT es k ((bg es k).getD 0+1))=fO es+1:=by
 have hv:=h.val k
 refine ⟨⟨fun k'=>?_,Am h.pos k (by omega),h.nod,h.rng,h.out⟩,by rw[Ak];omega⟩
 rw[nL]
 split
 ·rename_i e;subst e;exact hk.symm
 ·exact h.get k'
theorem iO.new (h:iO f es q) {k:gg} (hk:q.seen.contains k=false) (hr:bd f k.1=true):iO f (bT es k ((bg es k).getD 0+1)) ⟨q.seen++[k],q.out⟩∧fO (bT es k ((bg es k).getD 0+1))=fO es+1:=by
 have hv:=h.val k
 refine ⟨⟨fun k'=>?_,Am h.pos k (by omega),?_,fun k' hk'=>?_,?_⟩,by rw[Ak];omega⟩
 ·rw[nL]
  split
  ·rename_i e;subst e;simp
  ·rename_i hne
   rw[h.get k',w3]
   simp[hne]
 ·show (q.seen++[k]).Nodup
  rw[List.nodup_append]
  refine ⟨h.nod,by simp,fun a ha b hb e=>?_⟩
  simp at hb
  subst hb e
  rw[List.contains_iff_mem.2 ha] at hk;cases hk
 ·rcases List.mem_append.1 hk' with hk'|hk'
  ·exact h.rng k' hk'
  ·rw[List.mem_singleton.1 hk'];exact hr
 ·show q.out.length≤(q.seen++[k]).length
  have:=h.out
  rw[qz];simp;omega
theorem iO.tell {k:gg} (h:iO f es ⟨q.seen++[k],q.out⟩) (ho:q.out.length≤q.seen.length) (a b n:Int):iO f es (fd ⟨q.seen++[k],q.out⟩ a b n)∧(fd ⟨q.seen++[k],q.out⟩ a b n).seen=q.seen++[k]:=by
 unfold fd
 split
 ·exact ⟨h,rfl⟩
 ·refine ⟨⟨h.get,h.pos,h.nod,h.rng,?_⟩,rfl⟩
  show (q.out++_).length≤(q.seen++[k]).length
  simp;omega
end
structure tY (f:ac) (q:kz):Prop where
 nod:q.seen.Nodup
 rng:∀k∈q.seen,bd f k.1=true
 out:q.out.length≤q.seen.length
theorem tY.len {f:ac} {q:kz} (h:tY f q):q.out.length≤2*f.vars.length:=by
 have hsub:∀k∈q.seen,k∈(bw f.vars.length).flatMap fun i=>[(i,true),(i,false)]:=fun k hk=>by
  have hr:0≤k.1∧k.1<f.vars.length:=by simpa [bd] using h.rng k hk
  refine List.mem_flatMap.2 ⟨k.1,cX.2 hr,?_⟩
  obtain ⟨a,b⟩:=k
  cases b<;>simp
 have h1:=List.Nodup.length_le_of_subset h.nod hsub
 have h2:∀l:List Int,(l.flatMap fun i=>[(i,true),(i,false)]).length=2*l.length:=fun l=>by
  induction l with
  |nil=>rfl
  |cons a l ih=>
   rw[List.flatMap_cons,qz,ih,List.length_cons]
   show 2+2*l.length=2*(l.length+1)
   omega
 have h2:=h2 (bw f.vars.length)
 rw[bX] at h2
 have:=h.out
 omega
theorem tY.push {f:ac} {q:kz} (h:tY f q) {k:gg} (hk:q.seen.contains k=false) (hr:bd f k.1=true):tY f ⟨q.seen++[k],q.out⟩∧∀a b n,tY f (fd ⟨q.seen++[k],q.out⟩ a b n):=by
 have hn:(q.seen++[k]).Nodup:=by
  rw[List.nodup_append]
  refine ⟨h.nod,by simp,fun a ha b hb e=>?_⟩
  simp at hb
  subst hb e
  rw[List.contains_iff_mem.2 ha] at hk;cases hk
 have hg:∀k'∈q.seen++[k],bd f k'.1=true:=fun k' hk'=>by
  rcases List.mem_append.1 hk' with hk'|hk'
  ·exact h.rng k' hk'
  ·rw[List.mem_singleton.1 hk'];exact hr
 have ho:=h.out
 have h1:tY f ⟨q.seen++[k],q.out⟩:=⟨hn,hg,by show q.out.length≤(q.seen++[k]).length;simp;omega⟩
 refine ⟨h1,fun a b n=>?_⟩
 unfold fd
 split
 ·exact h1
 ·exact ⟨hn,hg,by show (q.out++_).length≤(q.seen++[k]).length;simp;omega⟩
theorem vZ {f:ac} (hR:b7 f):∀(n:Nat) (q:kz) (c:Int) (is:Bool),tY f q→bd f c=true→tY f (kC f n q c is)
 |0,q,_,_,h,_=>h
 |n+1,q,c,is,h,hc=>by
  unfold kC
  split
  ·exact h
  rename_i hk
  have hk:q.seen.contains (c,is)=false:=by simpa using hk
  obtain ⟨h1,h2⟩:=h.push hk hc
  split
  ·exact h1
  rename_i x hx
  obtain ⟨hF,_,_⟩:=hR.madeF hx
  have a0:∀{k:Int},x.op=k→0<([0,1,2,2,2,2,2,2,2,2,1,2,1,2,3,1,0,1,2,1,1,2,2,2,1,2,2][k.toNat]?).getD 0→bd f (bj x)=true:=fun e h=>by
   have:=hF.a0 (by rw[hF.cnt e];exact h)
   unfold bd;simpa using ⟨this.2,this.1⟩
  have a1:∀{k:Int},x.op=k→1<([0,1,2,2,2,2,2,2,2,2,1,2,1,2,3,1,0,1,2,1,1,2,2,2,1,2,2][k.toNat]?).getD 0→bd f (bY x)=true:=fun e h=>by
   have:=hF.a1 (by rw[hF.cnt e];exact h)
   unfold bd;simpa using ⟨this.2,this.1⟩
  split
  ·rename_i e;exact vZ hR n _ _ _ h1 (a0 e (by decide))
  split
  ·rename_i e;exact vZ hR n _ _ _ h1 (a0 e (by decide))
  split
  ·rename_i e
   split
   ·exact vZ hR n _ _ _ (vZ hR n _ _ _ h1 (a0 e (by decide))) (a1 e (by decide))
   ·exact h1
  split
  ·split
   ·exact h2 _ _ _
   ·exact h2 _ _ _
  split
  ·split
   ·exact h2 _ _ _
   ·exact h2 _ _ _
  split
  ·split
   ·exact h2 _ _ _
   ·exact h1
  ·exact h1
theorem BX {f:ac} (hR:b7 f) {c:Int} (is:Bool) (hc:bd f c=true):(kc f c is).length≤2*f.vars.length:=(vZ hR 100000 ⟨[],[]⟩ c is ⟨List.nodup_nil,fun k hk=>(by cases hk),Nat.le_refl _⟩ hc).len
end Go.Proofs.YtdilpodccjlkgaaGreatDoor
namespace Go.Proofs.YtdilpodccjlkgaaGreatDoor
open Go.Proofs.Tryz
open Go.Proofs Go.Lib Go.Shelf Go.RowKit
variable {E:World}
set_option maxRecDepth 20000
def nM:tS (Int × Int) where
 av:=fun k=>[.int .i64 k.1,.int .i64 k.2]
 val:=fun k=>#[.int .i64 k.1,.int .i64 k.2]
 one:=fun {I k v} h=>by
  obtain ⟨vs,rfl,a,_,rfl,h1,b,_,rfl,h2,h3⟩:=h
  have h1:a=.int .i64 k.1:=h1
  have h2:b=.int .i64 k.2:=h2
  have h3:_=[]:=h3
  subst h1 h2 h3;rfl
 bits:=fun k=>by unfold Instr.sameBits;simp[Instr.sameBits]
def tZ:tS (Int × Bool) where
 av:=fun k=>[.int .i64 k.1,.bool k.2]
 val:=fun k=>#[.int .i64 k.1,.bool k.2]
 one:=fun {I k v} h=>by
  obtain ⟨vs,rfl,a,_,rfl,h1,b,_,rfl,h2,h3⟩:=h
  have h1:a=.int .i64 k.1:=h1
  have h2:b=.bool k.2:=h2
  have h3:_=[]:=h3
  subst h1 h2 h3;rfl
 bits:=fun k=>by unfold Instr.sameBits;simp[Instr.sameBits]
set_option maxRecDepth 200000 in
set_option maxHeartbeats 4000000 in
theorem DS:iN nM prog 77 where
 und:=⟨_,Zp⟩
 chk:=fun e k w=>by
  have hS:prog.underlying 77=some (.struct (prog.fieldsOf 77)):=by kernel_rfl
  rw[show (10000:Nat)=9999+1 from rfl]
  unfold Instr.checkKey
  rw[Sem.run_bind,run_underlying hS]
  simp only[Result.andThen,nM,Program.fieldsOf,Zp]
  have h1:∀n w,(Instr.checkKey e 9999 3 (.int .i64 n)).run prog w=.ok () w:=fun n w=>MapKept.run_checkKey (d:=.int .i64) (k:=kv n) Zy (pg n) e 9998
  simp[part,j6,h1,Sem.run_bind,Result.andThen]
 eq:=fun k k' w=>by
  have hS:prog.underlying 77=some (.struct (prog.fieldsOf 77)):=by kernel_rfl
  have hp:prog.stoodInHeld 77=false:=by kernel_rfl
  unfold Op.equal nM
  rw[show Op.maxDepth=9999+1 from rfl,run_equalIn_agg w 9999 _ _ _ hS hp]
  simp only[Program.fieldsOf,Zp]
  simp[Op.eqFields,part,j6,run_equalIn_int,Zy]
  obtain ⟨a,b⟩:=k
  obtain ⟨a',b'⟩:=k'
  by_cases h1:a=a'<;>by_cases h2:b=b'<;>simp[h1,h2]
set_option maxRecDepth 200000 in
set_option maxHeartbeats 4000000 in
theorem ke:iN tZ prog 279 where
 und:=⟨_,underlying279⟩
 chk:=fun e k w=>by
  have hS:prog.underlying 279=some (.struct (prog.fieldsOf 279)):=by kernel_rfl
  rw[show (10000:Nat)=9999+1 from rfl]
  unfold Instr.checkKey
  rw[Sem.run_bind,run_underlying hS]
  simp only[Result.andThen,tZ,Program.fieldsOf,underlying279]
  have h1:∀n w,(Instr.checkKey e 9999 3 (.int .i64 n)).run prog w=.ok () w:=fun n w=>MapKept.run_checkKey (d:=.int .i64) (k:=kv n) Zy (pg n) e 9998
  have h2:∀n w,(Instr.checkKey e 9999 4 (.bool n)).run prog w=.ok () w:=fun n w=>MapKept.run_checkKey (d:=.bool) (k:=.bool n) Y8 trivial e 9998
  simp[part,j6,Ym,h1,h2,Sem.run_bind,Result.andThen]
 eq:=fun k k' w=>by
  have hS:prog.underlying 279=some (.struct (prog.fieldsOf 279)):=by kernel_rfl
  have hp:prog.stoodInHeld 279=false:=by kernel_rfl
  unfold Op.equal tZ
  rw[show Op.maxDepth=9999+1 from rfl,run_equalIn_agg w 9999 _ _ _ hS hp]
  simp only[Program.fieldsOf,underlying279]
  simp[Op.eqFields,part,j6,Ym,run_equalIn_int,run_equalIn_bool',Zy,Y8]
  obtain ⟨a,b⟩:=k
  obtain ⟨a',b'⟩:=k'
  by_cases h1:a=a'<;>by_cases h2:b=b'<;>simp[h1,h2]
end Go.Proofs.YtdilpodccjlkgaaGreatDoor
